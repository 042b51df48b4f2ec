/- What calls of the Go functions below do, each under the premises that its theorem states. Laid by a program of the claimant, which drives the kit's print; some texts are written by hand. -/
import Derived.Test.YtapnkefhihgbbaaPAllx0
import Derived.Test.YtapnkefhihgbbaaPAllxf10
import Derived.Test.YtapnkefhihgbbaaPAllxf14
import Derived.Test.YtapnkefhihgbbaaPAllxf15
import Derived.Test.YtapnkefhihgbbaaPAllxf16
import Derived.Test.YtapnkefhihgbbaaPAllxf17
import Derived.Test.YtapnkefhihgbbaaPAllxf9
namespace Go.Proofs.Ytapnkefhihgbbaa.PAll
open Go.RowKit Go.Proofs.YtapnkefhihgbbaaW.PrintWords Go.Proofs.YtapnkefhihgbbaaW.PrintLast Go.Proofs.YtapnkefhihgbbaaW.PrintMore
attribute [local go_sem] max2_int min2_int max_two min_two max_three min_three max_four min_four   -- for this text's walks alone
set_option linter.unusedVariables false
set_option linter.unusedSimpArgs false

/-! ### railplanlaw11_NetworkDurations: function 4 -/
def railplanlaw11_NetworkDurations.l0 : Nat → List Int → Bool → Int → Int → Int → List (S46) → List (S31) → Option (Bool)
  | 0, _, _, _, _, _, _, _ => none
  | k + 1, x6, x7, x18, x19, x221000, x221001, x221002 => if x19 < x18 then (if 0 ≤ x19 then (if x19 < (x221002.length : Int) then ((network_Duration.f x221000 x221001 x221002 x6 x19).bind fun t228 => (if t228 < ((rd_T31 x221002 x19).f3) then (some false) else (if t228 ≥ (wrap64 (((rd_T31 x221002 x19).f3) + x221000)) then (some false) else (if 0 ≤ ((rd_T31 x221002 x19).f2) then (if ((rd_T31 x221002 x19).f2) < (x6.length : Int) then (if 0 ≤ ((rd_T31 x221002 x19).f1) then (if ((rd_T31 x221002 x19).f1) < (x6.length : Int) then ((railplanref1_Mod.f (wrap64 (t228 - (wrap64 ((rd x6 ((rd_T31 x221002 x19).f2)) - (rd x6 ((rd_T31 x221002 x19).f1)))))) x221000).bind fun t231 => (if t231 = 0 then (if x7 = true then (railplanlaw11_NetworkDurations.l0 k x6 (decide (t228 ≤ ((rd_T31 x221002 x19).f4))) x18 (wrap64 (x19 + 1)) x221000 x221001 x221002) else (railplanlaw11_NetworkDurations.l0 k x6 false x18 (wrap64 (x19 + 1)) x221000 x221001 x221002)) else (some false))) else (none)) else (none)) else (none)) else (none))))) else (none)) else (none)) else ((railplanlaw11_awake.f).bind fun t224 => (if t224 = true then ((network_Feasible.f x221000 x221001 x221002 x6).bind fun t225 => (some (t225 == x7))) else (some false)))
def railplanlaw11_NetworkDurations.f (k : Nat) (l0 : List Int) (l1 : List Int) : Option (Bool) := (railplankeep_Network.f k l0).bind fun bt213 => ((railplankeep_Times.f k bt213.1 bt213.2.1 bt213.2.2 l1).bind fun t221 => (railplanlaw11_NetworkDurations.l0 k t221 true (bt213.2.2.length : Int) 0 bt213.1 bt213.2.1 bt213.2.2))
theorem railplanlaw11_NetworkDurations.mono_l : ∀ k, (∀ y0 y1 y2 y3 y4 y5 y6, LeO (railplanlaw11_NetworkDurations.l0 k y0 y1 y2 y3 y4 y5 y6) (railplanlaw11_NetworkDurations.l0 (k + 1) y0 y1 y2 y3 y4 y5 y6))
  | 0 => fun _ _ _ _ _ _ _ r h => by simp [railplanlaw11_NetworkDurations.l0] at h
  | k + 1 => by
    have ih0 := railplanlaw11_NetworkDurations.mono_l k
    · intro y0 y1 y2 y3 y4 y5 y6
      unfold railplanlaw11_NetworkDurations.l0
      repeat' first
      | (with_reducible exact ih0 _ _ _ _ _ _ _)
      | (with_reducible exact railplankeep_Network.mono _ _)
      | (with_reducible exact railplankeep_Times.mono _ _ _ _ _)
      | (with_reducible exact LeO.refl _)
      | (with_reducible exact LeO.none _)
      | (with_reducible refine LeO.ite ?_ ?_)
      | (with_reducible refine LeO.bind ?_ (fun _ => ?_))
      | exact ih0 _ _ _ _ _ _ _
      | exact railplankeep_Network.mono _ _
      | exact railplankeep_Times.mono _ _ _ _ _
      | exact LeO.none _
      | refine LeO.ite ?_ ?_
      | refine LeO.bind ?_ (fun _ => ?_)
theorem railplanlaw11_NetworkDurations.mono : ∀ a0 a1 k, LeO (railplanlaw11_NetworkDurations.f k a0 a1) (railplanlaw11_NetworkDurations.f (k + 1) a0 a1) := by
  intro a0 a1 k
  have ih0 := railplanlaw11_NetworkDurations.mono_l k
  unfold railplanlaw11_NetworkDurations.f
  repeat' first
      | (with_reducible exact ih0 _ _ _ _ _ _ _)
      | (with_reducible exact railplankeep_Network.mono _ _)
      | (with_reducible exact railplankeep_Times.mono _ _ _ _ _)
      | (with_reducible exact LeO.refl _)
      | (with_reducible exact LeO.none _)
      | (with_reducible refine LeO.ite ?_ ?_)
      | (with_reducible refine LeO.bind ?_ (fun _ => ?_))
      | exact ih0 _ _ _ _ _ _ _
      | exact railplankeep_Network.mono _ _
      | exact railplankeep_Times.mono _ _ _ _ _
      | exact LeO.none _
      | refine LeO.ite ?_ ?_
      | refine LeO.bind ?_ (fun _ => ?_)
def railplanlaw11_NetworkDurations.T9 : Bool × List (List Nat × List Nat) := (true, [([], []), ([], []), ([1], [1]), ([0, 2], [0, 2]), ([3], [3]), ([4], [4]), ([4], [4]), ([6, 4], [4, 6]), ([4], [4]), ([8, 4], [4, 8]), ([7, 9, 4], [4, 7, 9]), ([5, 10, 4], [4, 5, 10]), ([4, 11], [4, 11]), ([12, 4], [12]), ([13], [13]), ([13], [13]), ([13], [13]), ([16, 13], [13, 16]), ([15, 17, 13], [13, 15, 17]), ([18, 13], [13, 18]), ([13], [13]), ([13], [13]), ([21, 13], [13, 21]), ([20, 22, 13], [13, 20, 22]), ([23, 13], [13, 23]), ([19, 24, 13], [13, 19, 24]), ([14, 25, 13], [13, 14, 25]), ([13], [13]), ([27, 13], [13, 27]), ([26, 28, 13, 13], [13, 26, 28]), ([29, 13], [13, 29]), ([13, 30], [13, 30])])
def railplanlaw11_NetworkDurations.B9 : List Nat := [0, 0, 2, 7, 15, 31, 31, 95, 31, 287, 991, 2047, 4095, 8191, 16383, 16383, 16383, 81919, 245759, 507903, 16383, 16383, 2113535, 7356415, 15745023, 33538047, 67108863, 16383, 134234111, 536870911, 1073741823, 2147483647]
theorem railplanlaw11_NetworkDurations.tab9 : rtab .any (opsOf Try.f4 9) = railplanlaw11_NetworkDurations.T9 := by kernel_rfl
theorem railplanlaw11_NetworkDurations.bits9 : waitsOk railplanlaw11_NetworkDurations.T9.2 railplanlaw11_NetworkDurations.B9 = true := by kernel_rfl
set_option maxHeartbeats 8000000 in
set_option maxRecDepth 100000 in
theorem railplanlaw11_NetworkDurations.calls (k : Nat) (A0 : Option Addr) (c0 : Nat) (l0 : List Int) (A1 : Option Addr) (c1 : Nat) (l1 : List Int) (r : Bool) (w : World) (hr0 : Kd.C (Kd.int .i64) w A0 l0.length l0) (hc0 : l0.length ≤ c0) (hr1 : Kd.C (Kd.int .i64) w A1 l1.length l1) (hc1 : l1.length ≤ c1) (h : railplanlaw11_NetworkDurations.f k l0 l1 = some r) :
    Calls Try.prog 4 #[.slice A0 l0.length c0, .slice A1 l1.length c1] w fun e w' => e = .returned (.bool r) ∧ Below w.heap.size w w' := by
  have hu26 := Try.underlying26
  have hu31 := Try.underlying31
  have HR0 := Aside0.mk hr0
  have HC0 := Aside0.mk hc0
  clear hr0 hc0
  have HR1 := Aside0.mk hr1
  have HC1 := Aside0.mk hc1
  clear hr1 hc1
  have HB := Aside0.mk (Below.refl w.heap.size w)
  have H : ((railplankeep_Network.f k l0).bind fun bt213 => ((railplankeep_Times.f k bt213.1 bt213.2.1 bt213.2.2 l1).bind fun t221 => (railplanlaw11_NetworkDurations.l0 k t221 true (bt213.2.2.length : Int) 0 bt213.1 bt213.2.1 bt213.2.2))) = some r := h
  clear h
  replace H := Option.bind_eq_some_iff.mp H
  obtain ⟨⟨t213, t214, t217⟩, A30, H⟩ := H
  replace H : ((railplankeep_Times.f k t213 t214 t217 l1).bind fun t221 => (railplanlaw11_NetworkDurations.l0 k t221 true (t217.length : Int) 0 t213 t214 t217)) = some r := H
  have A3 := Aside0.mk A30
  clear A30
  replace H := Option.bind_eq_some_iff.mp H
  obtain ⟨t221, A40, H⟩ := H
  replace H : (railplanlaw11_NetworkDurations.l0 k t221 true (t217.length : Int) 0 t213 t214 t217) = some r := H
  have A4 := Aside0.mk A40
  clear A40
  have H' := Aside0.mk H
  clear H
  go_enter Try.func4, Try.ntmps4
  go_wp2_with (first | ((with_reducible refine gate_callee (f := 9) rfl ?_); refine goesL_ (some 12) rfl rfl Try.func9 (by kernel_rfl) rfl #[.slice A0 l0.length c0] rfl (by (try simp only [List.map_toArray, List.map_cons, List.map_nil]); first | done | rfl | (simp only [List.length_drop, List.length_take]; rfl)) ?_; (with_reducible refine (railplankeep_Network.calls k _ _ l0 t213 t214 t217 _ ?side1 ?side2 A3.out).mono ?_); (case side1 => repeat (first | exact HR0.out | (with_reducible refine Kd.C_alloc ?_ _) | (with_reducible refine Kd.C_drewN ?_ _) | (with_reducible refine Kd.C_drew ?_))); (case side2 => exact HC0.out); rintro e w5 ⟨v215, v218, rfl, ho0, ho1, hb⟩; refine ⟨_, rfl, ?_⟩; have n0_ := Aside0.mk (Kd.R_lower ho0 (below_size (by repeat (first | (with_reducible first | exact HB.out | apply below_alloc | apply pw_below_drewN | apply below_drew1) | exact HB.out)))); have n1_ := Aside0.mk (Kd.R_lower ho1 (below_size (by repeat (first | (with_reducible first | exact HB.out | apply below_alloc | apply pw_below_drewN | apply below_drew1) | exact HB.out)))); have n2_ := Aside0.mk (below_step (by repeat (first | (with_reducible first | exact HB.out | apply below_alloc | apply pw_below_drewN | apply below_drew1) | exact HB.out)) hb); clear HB; have HO216 := n0_; have HO219 := n1_; have HB := n2_; clear n0_ n1_ n2_; (try clear hb); (try clear hb2); (try clear hk); (try clear hi); (try clear ho0); (try clear ho1)) | ((with_reducible refine gate_dst (N := 5) rfl ?_); refine box_event ?hg (N := 5) ?hd (cs := #[.int .i64 0, .slice none 0 0, .slice none 0 0]) (t := 26) ?hr ?_; (case hd => rfl); (case hg => rfl); (case hr => first | (go_simp; done) | (go_simp; rfl)); intro gb220 hg w6 hbox hb; have n0_ := Aside0.mk (Kd.R_below (by (with_reducible repeat (first | apply Kd.R_alloc | apply Kd.R_drewN | apply Kd.R_drew)); exact HO216.out) hb); have n1_ := Aside0.mk (Kd.R_below (by (with_reducible repeat (first | apply Kd.R_alloc | apply Kd.R_drewN | apply Kd.R_drew)); exact HO219.out) hb); have n2_ := Aside0.mk (below_step (by repeat (first | (with_reducible first | exact HB.out | apply below_alloc | apply pw_below_drewN | apply below_drew1) | exact HB.out)) hb); have n3_ := Aside0.mk (hbox); have n4_ := Aside0.mk ((by rw [hg]; exact (below_size (by repeat (first | (with_reducible first | exact HB.out | apply below_alloc | apply pw_below_drewN | apply below_drew1) | exact HB.out))) : w.heap.size ≤ gb220)); have n5_ := Aside0.mk ((by rw [hg]; exact (below_size (by repeat (first | (with_reducible first | exact HB.out | apply below_alloc | apply pw_below_drewN | apply below_drew1) | exact HB.out))) : w.heap.size ≤ gb220)); clear HO216; clear HO219; clear HB; have HO216 := n0_; have HO219 := n1_; have HB := n2_; have BK220 := n3_; have GW220 := n4_; have GE220 := n5_; clear n0_ n1_ n2_ n3_ n4_ n5_; clear hb hbox hg; have hcz7_0 : w6.cell? ⟨gb220, 0, none⟩ = some (.int .i64 0) := (blk_cell BK220.out 0).trans rfl; have hcz7_1 : w6.cell? ⟨gb220, 1, none⟩ = some (.slice none 0 0) := (blk_cell BK220.out 1).trans rfl; have hcz7_2 : w6.cell? ⟨gb220, 2, none⟩ = some (.slice none 0 0) := (blk_cell BK220.out 2).trans rfl; have hfz7_0 := blk_frozen BK220.out 0; have hfz7_1 := blk_frozen BK220.out 1; have hfz7_2 := blk_frozen BK220.out 2; obtain ⟨Ao8, co8, eo8⟩ := Kd.R_slice HO216.out; subst eo8; obtain ⟨Ao9, co9, eo9⟩ := Kd.R_slice HO219.out; subst eo9) | ((with_reducible refine gate_callee (f := 14) rfl ?_); refine goesL_ (some 15) rfl rfl Try.func14 (by kernel_rfl) rfl #[.agg #[.int .i64 t213, .slice Ao8 t214.length co8, .slice Ao9 t217.length co9], .slice A1 l1.length c1] rfl (by (try simp only [List.map_toArray, List.map_cons, List.map_nil]); first | done | rfl | (simp only [List.length_drop, List.length_take]; rfl)) ?_; (with_reducible refine (railplankeep_Times.calls k t213 _ _ t214 _ _ t217 _ _ l1 t221 _ ?side1 ?side2 ?side3 ?side4 ?side5 ?side6 A4.out).mono ?_); (case side1 => refine (Kd.R_reads' (e := 46) (base := w.heap.size) (ok := fun k_ => True) (n := t214.length) (c := co8) ?_).2.2; exact (by (with_reducible repeat (first | apply Kd.R_alloc | apply Kd.R_drewN | apply Kd.R_drew)); exact (Kd.R_mono (Kd.R_far (p := ⟨gb220, 2, none⟩) (Kd.R_far (p := ⟨gb220, 1, none⟩) (Kd.R_far (p := ⟨gb220, 0, none⟩) (Kd.R_types HO216.out BK220.out (by decide)) (fun _ hk => hk.2) (.int .i64 t213)) (fun _ hk => hk.2) (.slice Ao8 t214.length co8)) (fun _ hk => hk.2) (.slice Ao9 t217.length co9)) (fun _ h_ => h_.1)))); (case side2 => exact (Kd.R_reads' HO216.out).2.1); (case side3 => refine (Kd.R_reads' (e := 31) (base := w.heap.size) (ok := fun k_ => True) (n := t217.length) (c := co9) ?_).2.2; exact (by (with_reducible repeat (first | apply Kd.R_alloc | apply Kd.R_drewN | apply Kd.R_drew)); exact (Kd.R_mono (Kd.R_far (p := ⟨gb220, 2, none⟩) (Kd.R_far (p := ⟨gb220, 1, none⟩) (Kd.R_far (p := ⟨gb220, 0, none⟩) (Kd.R_types HO219.out BK220.out (by decide)) (fun _ hk => hk.2) (.int .i64 t213)) (fun _ hk => hk.2) (.slice Ao8 t214.length co8)) (fun _ hk => hk.2) (.slice Ao9 t217.length co9)) (fun _ h_ => h_.1)))); (case side4 => exact (Kd.R_reads' HO219.out).2.1); (case side5 => exact Kd.C_below HR1.out (by repeat (first | (with_reducible first | exact HB.out | apply below_alloc | apply pw_below_drewN | apply below_drew1 | refine below_set ?_ GE220.out) | exact HB.out))); (case side6 => exact HC1.out); rintro e w10 ⟨v222, rfl, ho0, hb⟩; refine ⟨_, rfl, ?_⟩; have n0_ := Aside0.mk (Kd.R_below (by (with_reducible repeat (first | apply Kd.R_alloc | apply Kd.R_drewN | apply Kd.R_drew)); exact (Kd.R_mono (Kd.R_far (p := ⟨gb220, 2, none⟩) (Kd.R_far (p := ⟨gb220, 1, none⟩) (Kd.R_far (p := ⟨gb220, 0, none⟩) (Kd.R_types HO216.out BK220.out (by decide)) (fun _ hk => hk.2) (.int .i64 t213)) (fun _ hk => hk.2) (.slice Ao8 t214.length co8)) (fun _ hk => hk.2) (.slice Ao9 t217.length co9)) (fun _ h_ => h_.1))) hb); have n1_ := Aside0.mk (Kd.R_below (by (with_reducible repeat (first | apply Kd.R_alloc | apply Kd.R_drewN | apply Kd.R_drew)); exact (Kd.R_mono (Kd.R_far (p := ⟨gb220, 2, none⟩) (Kd.R_far (p := ⟨gb220, 1, none⟩) (Kd.R_far (p := ⟨gb220, 0, none⟩) (Kd.R_types HO219.out BK220.out (by decide)) (fun _ hk => hk.2) (.int .i64 t213)) (fun _ hk => hk.2) (.slice Ao8 t214.length co8)) (fun _ hk => hk.2) (.slice Ao9 t217.length co9)) (fun _ h_ => h_.1))) hb); have n2_ := Aside0.mk (Kd.R_lower ho0 (below_size (by repeat (first | (with_reducible first | exact HB.out | apply below_alloc | apply pw_below_drewN | apply below_drew1 | refine below_set ?_ GE220.out) | exact HB.out)))); have n3_ := Aside0.mk (blk_below (g := gb220) (o := .cells #[.int .i64 t213, .slice Ao8 t214.length co8, .slice Ao9 t217.length co9] 26 (0, 0)) (by (with_reducible repeat (first | refine blk_drewN ?_ _ | refine blk_drew ?_ | refine blk_alloc ?_ _)); refine blk_put (cs := #[.int .i64 t213, .slice Ao8 t214.length co8, .slice none 0 0]) ?_ 2 _ rfl; (with_reducible repeat (first | refine blk_drewN ?_ _ | refine blk_drew ?_ | refine blk_alloc ?_ _)); refine blk_put (cs := #[.int .i64 t213, .slice none 0 0, .slice none 0 0]) ?_ 1 _ rfl; (with_reducible repeat (first | refine blk_drewN ?_ _ | refine blk_drew ?_ | refine blk_alloc ?_ _)); refine blk_put (cs := #[.int .i64 0, .slice none 0 0, .slice none 0 0]) ?_ 0 _ rfl; (with_reducible repeat (first | refine blk_drewN ?_ _ | refine blk_drew ?_ | refine blk_alloc ?_ _)); exact BK220.out) hb); have n4_ := Aside0.mk (below_step (by repeat (first | (with_reducible first | exact HB.out | apply below_alloc | apply pw_below_drewN | apply below_drew1 | refine below_set ?_ GE220.out) | exact HB.out)) hb); clear HO216; clear HO219; clear BK220; clear HB; have HO216 := n0_; have HO219 := n1_; have HO223 := n2_; have BK220 := n3_; have HB := n4_; clear n0_ n1_ n2_ n3_ n4_; (try clear hb); (try clear hb2); (try clear hk); (try clear hi); (try clear ho0); have hcz11_0 : w10.cell? ⟨gb220, 0, none⟩ = some (.int .i64 t213) := (blk_cell BK220.out 0).trans rfl; have hcz11_1 : w10.cell? ⟨gb220, 1, none⟩ = some (.slice Ao8 t214.length co8) := (blk_cell BK220.out 1).trans rfl; have hcz11_2 : w10.cell? ⟨gb220, 2, none⟩ = some (.slice Ao9 t217.length co9) := (blk_cell BK220.out 2).trans rfl; have hfz11_0 := blk_frozen BK220.out 0; have hfz11_1 := blk_frozen BK220.out 1; have hfz11_2 := blk_frozen BK220.out 2))
  go_loopg [7, 19] k (fun kq v7 v19 w' => ∃ (x7_1 : Bool) (x19_1 : Int), v7 = .bool x7_1 ∧ v19 = .int .i64 x19_1 ∧ Aside0 (railplanlaw11_NetworkDurations.l0 kq t221 x7_1 (t217.length : Int) x19_1 t213 t214 t217 = some r) ∧ Aside0 (kq ≤ k) ∧ Aside0 (Kd.R (Kd.int .i64) 3 w' w.heap.size (fun _ => True) v222 t221) ∧ Aside0 (Kd.R k46 46 w' w.heap.size (fun _ => True) (.slice Ao8 t214.length co8) t214) ∧ Aside0 (Kd.R k31 31 w' w.heap.size (fun _ => True) (.slice Ao9 t217.length co9) t217) ∧ Aside0 (w'.heap[gb220]? = some (.cells #[.int .i64 t213, (.slice Ao8 t214.length co8), (.slice Ao9 t217.length co9)] 26 (0, 0))) ∧ Aside0 (Below w.heap.size w w'))
  case atStart => exact ⟨(true), (0), (by first | rfl | (simp; done) | (simp [*]; done)), (by first | rfl | (simp; done) | (simp [*]; done)), H', ⟨Nat.le_refl _⟩, ⟨by (with_reducible repeat (first | apply Kd.R_alloc | apply Kd.R_drewN | apply Kd.R_drew)); exact HO223.out⟩, ⟨by (with_reducible repeat (first | apply Kd.R_alloc | apply Kd.R_drewN | apply Kd.R_drew)); exact HO216.out⟩, ⟨by (with_reducible repeat (first | apply Kd.R_alloc | apply Kd.R_drewN | apply Kd.R_drew)); exact HO219.out⟩, ⟨by (with_reducible repeat (first | refine blk_drewN ?_ _ | refine blk_drew ?_ | refine blk_alloc ?_ _)); exact BK220.out⟩, ⟨by repeat (first | (with_reducible first | exact HB.out | apply below_alloc | apply pw_below_drewN | apply below_drew1 | refine below_set ?_ GE220.out) | exact HB.out)⟩⟩
  case round =>
    clear H'
    try clear c1
    try clear p2
    try clear c4
    try clear c9
    try clear hcz11_0
    try clear hcz11_1
    try clear hcz11_2
    try clear hcz7_0
    try clear hcz7_1
    try clear hcz7_2
    try clear hfz11_0
    try clear hfz11_1
    try clear hfz11_2
    try clear hfz7_0
    try clear hfz7_1
    try clear hfz7_2
    obtain ⟨x7_1, x19_1, rfl, rfl, HA, HK1, HO_6, HO_221001, HO_221002, BK220, HB⟩ := hrel
    cases gk with
    | zero => exact absurd HA.out (by simp [railplanlaw11_NetworkDurations.l0])
    | succ k1 =>
      have H := HA.out
      clear HA
      simp only [railplanlaw11_NetworkDurations.l0] at H
      by_cases c12 : x19_1 < (t217.length : Int)
      · rw [if_pos c12] at H
        have c12b0 : decide (x19_1 < (t217.length : Int)) = true := decide_eq_true c12
        clear c12
        by_cases c13 : 0 ≤ x19_1
        · rw [if_pos c13] at H
          have c13b0 : decide (0 ≤ x19_1) = true := decide_eq_true c13
          clear c13
          by_cases c14 : x19_1 < (t217.length : Int)
          · rw [if_pos c14] at H
            have c14b0 : decide (x19_1 < (t217.length : Int)) = true := decide_eq_true c14
            clear c14
            replace H := Option.bind_eq_some_iff.mp H
            obtain ⟨t228, A150, H⟩ := H
            replace H : (if t228 < ((rd_T31 t217 x19_1).f3) then (some false) else (if t228 ≥ (wrap64 (((rd_T31 t217 x19_1).f3) + t213)) then (some false) else (if 0 ≤ ((rd_T31 t217 x19_1).f2) then (if ((rd_T31 t217 x19_1).f2) < (t221.length : Int) then (if 0 ≤ ((rd_T31 t217 x19_1).f1) then (if ((rd_T31 t217 x19_1).f1) < (t221.length : Int) then ((railplanref1_Mod.f (wrap64 (t228 - (wrap64 ((rd t221 ((rd_T31 t217 x19_1).f2)) - (rd t221 ((rd_T31 t217 x19_1).f1)))))) t213).bind fun t231 => (if t231 = 0 then (if x7_1 = true then (railplanlaw11_NetworkDurations.l0 k1 t221 (decide (t228 ≤ ((rd_T31 t217 x19_1).f4))) (t217.length : Int) (wrap64 (x19_1 + 1)) t213 t214 t217) else (railplanlaw11_NetworkDurations.l0 k1 t221 false (t217.length : Int) (wrap64 (x19_1 + 1)) t213 t214 t217)) else (some false))) else (none)) else (none)) else (none)) else (none)))) = some r := H
            have A15 := Aside0.mk A150
            clear A150
            by_cases c16 : t228 < ((rd_T31 t217 x19_1).f3)
            · rw [if_pos c16] at H
              have c16b0 : decide (t228 < ((rd_T31 t217 x19_1).f3)) = true := decide_eq_true c16
              clear c16
              obtain rfl := Option.some.inj H
              have hcz17_0 : wr.cell? ⟨gb220, 0, none⟩ = some (.int .i64 t213) := (blk_cell BK220.out 0).trans rfl
              have hcz17_1 : wr.cell? ⟨gb220, 1, none⟩ = some (.slice Ao8 t214.length co8) := (blk_cell BK220.out 1).trans rfl
              have hcz17_2 : wr.cell? ⟨gb220, 2, none⟩ = some (.slice Ao9 t217.length co9) := (blk_cell BK220.out 2).trans rfl
              have hfz17_0 := blk_frozen BK220.out 0
              have hfz17_1 := blk_frozen BK220.out 1
              have hfz17_2 := blk_frozen BK220.out 2
              have p226 : 0 ≤ (x19_1 : Int) := of_decide_eq_true (by first | (with_reducible assumption) | assumption)
              have q226 : x19_1 < (t217.length : Int) := of_decide_eq_true (by first | (with_reducible assumption) | assumption)
              obtain ⟨ad226, e226, hx226_0, hx226_1, hx226_2, hx226_3, hx226_4, hx226_5⟩ := at_T31 (Kd.R_reads' HO_221002.out).2.2 x19_1 p226 q226
              cases e226
              replace p226 := eq_true p226
              replace q226 := eq_true q226
              try go_wp2_with (first | ((with_reducible refine gate_dst (N := 9) rfl ?_); refine box_event ?hg (N := 9) ?hd (cs := #[.int .i64 0, .int .i64 0, .int .i64 0, .int .i64 0, .int .i64 0, .int .i64 0]) (t := 31) ?hr ?_; (case hd => rfl); (case hg => rfl); (case hr => first | (go_simp; done) | (go_simp; rfl)); intro gb227 hg w18 hbox hb; have n0_ := Aside0.mk (Kd.R_below (by (with_reducible repeat (first | apply Kd.R_alloc | apply Kd.R_drewN | apply Kd.R_drew)); exact HO_6.out) hb); have n1_ := Aside0.mk (Kd.R_below (by (with_reducible repeat (first | apply Kd.R_alloc | apply Kd.R_drewN | apply Kd.R_drew)); exact HO_221001.out) hb); have n2_ := Aside0.mk (Kd.R_below (Kd.R_elderB (by (with_reducible repeat (first | apply Kd.R_alloc | apply Kd.R_drewN | apply Kd.R_drew)); exact HO_221002.out) gb227 (Nat.le_of_eq hg.symm)) hb); have n3_ := Aside0.mk (blk_below (g := gb220) (o := .cells #[.int .i64 t213, .slice Ao8 t214.length co8, .slice (some ad226) t217.length co9] 26 (0, 0)) (by (with_reducible repeat (first | refine blk_drewN ?_ _ | refine blk_drew ?_ | refine blk_alloc ?_ _)); exact BK220.out) hb); have n4_ := Aside0.mk (below_step (by repeat (first | (with_reducible first | exact HB.out | apply below_alloc | apply pw_below_drewN | apply below_drew1 | refine below_set ?_ GE220.out) | exact HB.out)) hb); have n5_ := Aside0.mk (hbox); have n6_ := Aside0.mk ((by rw [hg]; exact (below_size (by repeat (first | (with_reducible first | exact HB.out | apply below_alloc | apply pw_below_drewN | apply below_drew1 | refine below_set ?_ GE220.out) | exact HB.out))) : w.heap.size ≤ gb227)); have n7_ := Aside0.mk ((by rw [hg]; exact (below_size (by repeat (first | (with_reducible first | exact HB.out | apply below_alloc | apply pw_below_drewN | apply below_drew1 | refine below_set ?_ GE220.out) | exact HB.out))) : w.heap.size ≤ gb227)); have n8_ := Aside0.mk ((by rw [hg]; exact Nat.ne_of_lt (blk_lt (g := gb220) (o := .cells #[.int .i64 t213, .slice Ao8 t214.length co8, .slice (some ad226) t217.length co9] 26 (0, 0)) (by (with_reducible repeat (first | refine blk_drewN ?_ _ | refine blk_drew ?_ | refine blk_alloc ?_ _)); exact BK220.out)) : gb220 ≠ gb227)); have n9_ := Aside0.mk ((by rw [hg]; exact Nat.ne_of_gt (blk_lt (g := gb220) (o := .cells #[.int .i64 t213, .slice Ao8 t214.length co8, .slice (some ad226) t217.length co9] 26 (0, 0)) (by (with_reducible repeat (first | refine blk_drewN ?_ _ | refine blk_drew ?_ | refine blk_alloc ?_ _)); exact BK220.out)) : gb227 ≠ gb220)); clear HO_6; clear HO_221001; clear HO_221002; clear BK220; clear HB; have HO_6 := n0_; have HO_221001 := n1_; have HO_221002 := n2_; have BK220 := n3_; have HB := n4_; have BK227 := n5_; have GW227 := n6_; have GE227 := n7_; have NB220_227 := n8_; have NB227_220 := n9_; clear n0_ n1_ n2_ n3_ n4_ n5_ n6_ n7_ n8_ n9_; clear hb hbox hg; have hnb19 := NB227_220.out; have hnc19 := NB220_227.out; have hcz20_0 : w18.cell? ⟨gb227, 0, none⟩ = some (.int .i64 0) := (blk_cell BK227.out 0).trans rfl; have hcz20_1 : w18.cell? ⟨gb227, 1, none⟩ = some (.int .i64 0) := (blk_cell BK227.out 1).trans rfl; have hcz20_2 : w18.cell? ⟨gb227, 2, none⟩ = some (.int .i64 0) := (blk_cell BK227.out 2).trans rfl; have hcz20_3 : w18.cell? ⟨gb227, 3, none⟩ = some (.int .i64 0) := (blk_cell BK227.out 3).trans rfl; have hcz20_4 : w18.cell? ⟨gb227, 4, none⟩ = some (.int .i64 0) := (blk_cell BK227.out 4).trans rfl; have hcz20_5 : w18.cell? ⟨gb227, 5, none⟩ = some (.int .i64 0) := (blk_cell BK227.out 5).trans rfl; have hfz20_0 := blk_frozen BK227.out 0; have hfz20_1 := blk_frozen BK227.out 1; have hfz20_2 := blk_frozen BK227.out 2; have hfz20_3 := blk_frozen BK227.out 3; have hfz20_4 := blk_frozen BK227.out 4; have hfz20_5 := blk_frozen BK227.out 5; have hcz21_0 : w18.cell? ⟨gb220, 0, none⟩ = some (.int .i64 t213) := (blk_cell BK220.out 0).trans rfl; have hcz21_1 : w18.cell? ⟨gb220, 1, none⟩ = some (.slice Ao8 t214.length co8) := (blk_cell BK220.out 1).trans rfl; have hcz21_2 : w18.cell? ⟨gb220, 2, none⟩ = some (.slice (some ad226) t217.length co9) := (blk_cell BK220.out 2).trans rfl; have hfz21_0 := blk_frozen BK220.out 0; have hfz21_1 := blk_frozen BK220.out 1; have hfz21_2 := blk_frozen BK220.out 2; obtain ⟨Ao22, co22, eo22⟩ := Kd.R_slice HO_6.out; subst eo22) | ((with_reducible refine gate_callee (f := 15) rfl ?_); refine goesL_ (some 30) rfl rfl Try.func15 (by kernel_rfl) rfl #[.agg #[.int .i64 t213, .slice Ao8 t214.length co8, .slice (some ad226) t217.length co9], .slice Ao22 t221.length co22, .int .i64 x19_1] rfl (by (try simp only [List.map_toArray, List.map_cons, List.map_nil]); first | done | rfl | (simp only [List.length_drop, List.length_take]; rfl)) ?_; (with_reducible refine (network_Duration.calls t213 _ _ t214 _ _ t217 _ _ t221 x19_1 t228 _ ?side1 ?side2 ?side3 ?side4 ?side5 ?side6 A15.out).mono ?_); (case side1 => refine (Kd.R_reads' (e := 46) (base := w.heap.size) (ok := fun k_ => True) (n := t214.length) (c := co8) ?_).2.2; exact (by (with_reducible repeat (first | apply Kd.R_alloc | apply Kd.R_drewN | apply Kd.R_drew)); exact (Kd.R_mono (Kd.R_far (p := ⟨gb227, 5, none⟩) (Kd.R_far (p := ⟨gb227, 4, none⟩) (Kd.R_far (p := ⟨gb227, 3, none⟩) (Kd.R_far (p := ⟨gb227, 2, none⟩) (Kd.R_far (p := ⟨gb227, 1, none⟩) (Kd.R_far (p := ⟨gb227, 0, none⟩) (Kd.R_types HO_221001.out BK227.out (by decide)) (fun _ hk => hk.2) (.int .i64 ((rd_T31 t217 x19_1).f0))) (fun _ hk => hk.2) (.int .i64 ((rd_T31 t217 x19_1).f1))) (fun _ hk => hk.2) (.int .i64 ((rd_T31 t217 x19_1).f2))) (fun _ hk => hk.2) (.int .i64 ((rd_T31 t217 x19_1).f3))) (fun _ hk => hk.2) (.int .i64 ((rd_T31 t217 x19_1).f4))) (fun _ hk => hk.2) (.int .i64 ((rd_T31 t217 x19_1).f5))) (fun _ h_ => h_.1)))); (case side2 => exact (Kd.R_reads' HO_221001.out).2.1); (case side3 => refine (Kd.R_reads' (e := 31) (base := w.heap.size) (ok := fun k_ => (True ∧ k_ ≠ gb227)) (n := t217.length) (c := co9) ?_).2.2; exact (by (with_reducible repeat (first | apply Kd.R_alloc | apply Kd.R_drewN | apply Kd.R_drew)); exact (Kd.R_mono (Kd.R_far (p := ⟨gb227, 5, none⟩) (Kd.R_far (p := ⟨gb227, 4, none⟩) (Kd.R_far (p := ⟨gb227, 3, none⟩) (Kd.R_far (p := ⟨gb227, 2, none⟩) (Kd.R_far (p := ⟨gb227, 1, none⟩) (Kd.R_far (p := ⟨gb227, 0, none⟩) (Kd.R_mono HO_221002.out (fun k_ hk => (⟨hk, hk.2⟩ : _ ∧ k_ ≠ gb227))) (fun _ hk => hk.2) (.int .i64 ((rd_T31 t217 x19_1).f0))) (fun _ hk => hk.2) (.int .i64 ((rd_T31 t217 x19_1).f1))) (fun _ hk => hk.2) (.int .i64 ((rd_T31 t217 x19_1).f2))) (fun _ hk => hk.2) (.int .i64 ((rd_T31 t217 x19_1).f3))) (fun _ hk => hk.2) (.int .i64 ((rd_T31 t217 x19_1).f4))) (fun _ hk => hk.2) (.int .i64 ((rd_T31 t217 x19_1).f5))) (fun _ h_ => h_.1)))); (case side4 => exact (Kd.R_reads' HO_221002.out).2.1); (case side5 => refine (Kd.R_reads' (e := 3) (base := w.heap.size) (ok := fun k_ => True) (n := t221.length) (c := co22) ?_).2.2; exact (by (with_reducible repeat (first | apply Kd.R_alloc | apply Kd.R_drewN | apply Kd.R_drew)); exact (Kd.R_mono (Kd.R_far (p := ⟨gb227, 5, none⟩) (Kd.R_far (p := ⟨gb227, 4, none⟩) (Kd.R_far (p := ⟨gb227, 3, none⟩) (Kd.R_far (p := ⟨gb227, 2, none⟩) (Kd.R_far (p := ⟨gb227, 1, none⟩) (Kd.R_far (p := ⟨gb227, 0, none⟩) (Kd.R_types HO_6.out BK227.out (by decide)) (fun _ hk => hk.2) (.int .i64 ((rd_T31 t217 x19_1).f0))) (fun _ hk => hk.2) (.int .i64 ((rd_T31 t217 x19_1).f1))) (fun _ hk => hk.2) (.int .i64 ((rd_T31 t217 x19_1).f2))) (fun _ hk => hk.2) (.int .i64 ((rd_T31 t217 x19_1).f3))) (fun _ hk => hk.2) (.int .i64 ((rd_T31 t217 x19_1).f4))) (fun _ hk => hk.2) (.int .i64 ((rd_T31 t217 x19_1).f5))) (fun _ h_ => h_.1)))); (case side6 => exact (Kd.R_reads' HO_6.out).2.1); rintro e w23 ⟨rfl, hb⟩; refine ⟨_, rfl, ?_⟩; have n0_ := Aside0.mk (Kd.R_below (by (with_reducible repeat (first | apply Kd.R_alloc | apply Kd.R_drewN | apply Kd.R_drew)); exact (Kd.R_mono (Kd.R_far (p := ⟨gb227, 5, none⟩) (Kd.R_far (p := ⟨gb227, 4, none⟩) (Kd.R_far (p := ⟨gb227, 3, none⟩) (Kd.R_far (p := ⟨gb227, 2, none⟩) (Kd.R_far (p := ⟨gb227, 1, none⟩) (Kd.R_far (p := ⟨gb227, 0, none⟩) (Kd.R_types HO_6.out BK227.out (by decide)) (fun _ hk => hk.2) (.int .i64 ((rd_T31 t217 x19_1).f0))) (fun _ hk => hk.2) (.int .i64 ((rd_T31 t217 x19_1).f1))) (fun _ hk => hk.2) (.int .i64 ((rd_T31 t217 x19_1).f2))) (fun _ hk => hk.2) (.int .i64 ((rd_T31 t217 x19_1).f3))) (fun _ hk => hk.2) (.int .i64 ((rd_T31 t217 x19_1).f4))) (fun _ hk => hk.2) (.int .i64 ((rd_T31 t217 x19_1).f5))) (fun _ h_ => h_.1))) hb); have n1_ := Aside0.mk (Kd.R_below (by (with_reducible repeat (first | apply Kd.R_alloc | apply Kd.R_drewN | apply Kd.R_drew)); exact (Kd.R_mono (Kd.R_far (p := ⟨gb227, 5, none⟩) (Kd.R_far (p := ⟨gb227, 4, none⟩) (Kd.R_far (p := ⟨gb227, 3, none⟩) (Kd.R_far (p := ⟨gb227, 2, none⟩) (Kd.R_far (p := ⟨gb227, 1, none⟩) (Kd.R_far (p := ⟨gb227, 0, none⟩) (Kd.R_types HO_221001.out BK227.out (by decide)) (fun _ hk => hk.2) (.int .i64 ((rd_T31 t217 x19_1).f0))) (fun _ hk => hk.2) (.int .i64 ((rd_T31 t217 x19_1).f1))) (fun _ hk => hk.2) (.int .i64 ((rd_T31 t217 x19_1).f2))) (fun _ hk => hk.2) (.int .i64 ((rd_T31 t217 x19_1).f3))) (fun _ hk => hk.2) (.int .i64 ((rd_T31 t217 x19_1).f4))) (fun _ hk => hk.2) (.int .i64 ((rd_T31 t217 x19_1).f5))) (fun _ h_ => h_.1))) hb); have n2_ := Aside0.mk (Kd.R_below (by (with_reducible repeat (first | apply Kd.R_alloc | apply Kd.R_drewN | apply Kd.R_drew)); exact (Kd.R_mono (Kd.R_far (p := ⟨gb227, 5, none⟩) (Kd.R_far (p := ⟨gb227, 4, none⟩) (Kd.R_far (p := ⟨gb227, 3, none⟩) (Kd.R_far (p := ⟨gb227, 2, none⟩) (Kd.R_far (p := ⟨gb227, 1, none⟩) (Kd.R_far (p := ⟨gb227, 0, none⟩) (Kd.R_mono HO_221002.out (fun k_ hk => (⟨hk, hk.2⟩ : _ ∧ k_ ≠ gb227))) (fun _ hk => hk.2) (.int .i64 ((rd_T31 t217 x19_1).f0))) (fun _ hk => hk.2) (.int .i64 ((rd_T31 t217 x19_1).f1))) (fun _ hk => hk.2) (.int .i64 ((rd_T31 t217 x19_1).f2))) (fun _ hk => hk.2) (.int .i64 ((rd_T31 t217 x19_1).f3))) (fun _ hk => hk.2) (.int .i64 ((rd_T31 t217 x19_1).f4))) (fun _ hk => hk.2) (.int .i64 ((rd_T31 t217 x19_1).f5))) (fun _ h_ => h_.1))) hb); have n3_ := Aside0.mk (blk_below (g := gb220) (o := .cells #[.int .i64 t213, .slice Ao8 t214.length co8, .slice (some ad226) t217.length co9] 26 (0, 0)) (by (with_reducible repeat (first | refine blk_drewN ?_ _ | refine blk_drew ?_ | refine blk_alloc ?_ _)); refine blk_far ?_ NB220_227.out _; (with_reducible repeat (first | refine blk_drewN ?_ _ | refine blk_drew ?_ | refine blk_alloc ?_ _)); refine blk_far ?_ NB220_227.out _; (with_reducible repeat (first | refine blk_drewN ?_ _ | refine blk_drew ?_ | refine blk_alloc ?_ _)); refine blk_far ?_ NB220_227.out _; (with_reducible repeat (first | refine blk_drewN ?_ _ | refine blk_drew ?_ | refine blk_alloc ?_ _)); refine blk_far ?_ NB220_227.out _; (with_reducible repeat (first | refine blk_drewN ?_ _ | refine blk_drew ?_ | refine blk_alloc ?_ _)); refine blk_far ?_ NB220_227.out _; (with_reducible repeat (first | refine blk_drewN ?_ _ | refine blk_drew ?_ | refine blk_alloc ?_ _)); refine blk_far ?_ NB220_227.out _; (with_reducible repeat (first | refine blk_drewN ?_ _ | refine blk_drew ?_ | refine blk_alloc ?_ _)); exact BK220.out) hb); have n4_ := Aside0.mk (blk_below (g := gb227) (o := .cells #[.int .i64 ((rd_T31 t217 x19_1).f0), .int .i64 ((rd_T31 t217 x19_1).f1), .int .i64 ((rd_T31 t217 x19_1).f2), .int .i64 ((rd_T31 t217 x19_1).f3), .int .i64 ((rd_T31 t217 x19_1).f4), .int .i64 ((rd_T31 t217 x19_1).f5)] 31 (0, 0)) (by (with_reducible repeat (first | refine blk_drewN ?_ _ | refine blk_drew ?_ | refine blk_alloc ?_ _)); refine blk_put (cs := #[.int .i64 ((rd_T31 t217 x19_1).f0), .int .i64 ((rd_T31 t217 x19_1).f1), .int .i64 ((rd_T31 t217 x19_1).f2), .int .i64 ((rd_T31 t217 x19_1).f3), .int .i64 ((rd_T31 t217 x19_1).f4), .int .i64 0]) ?_ 5 _ rfl; (with_reducible repeat (first | refine blk_drewN ?_ _ | refine blk_drew ?_ | refine blk_alloc ?_ _)); refine blk_put (cs := #[.int .i64 ((rd_T31 t217 x19_1).f0), .int .i64 ((rd_T31 t217 x19_1).f1), .int .i64 ((rd_T31 t217 x19_1).f2), .int .i64 ((rd_T31 t217 x19_1).f3), .int .i64 0, .int .i64 0]) ?_ 4 _ rfl; (with_reducible repeat (first | refine blk_drewN ?_ _ | refine blk_drew ?_ | refine blk_alloc ?_ _)); refine blk_put (cs := #[.int .i64 ((rd_T31 t217 x19_1).f0), .int .i64 ((rd_T31 t217 x19_1).f1), .int .i64 ((rd_T31 t217 x19_1).f2), .int .i64 0, .int .i64 0, .int .i64 0]) ?_ 3 _ rfl; (with_reducible repeat (first | refine blk_drewN ?_ _ | refine blk_drew ?_ | refine blk_alloc ?_ _)); refine blk_put (cs := #[.int .i64 ((rd_T31 t217 x19_1).f0), .int .i64 ((rd_T31 t217 x19_1).f1), .int .i64 0, .int .i64 0, .int .i64 0, .int .i64 0]) ?_ 2 _ rfl; (with_reducible repeat (first | refine blk_drewN ?_ _ | refine blk_drew ?_ | refine blk_alloc ?_ _)); refine blk_put (cs := #[.int .i64 ((rd_T31 t217 x19_1).f0), .int .i64 0, .int .i64 0, .int .i64 0, .int .i64 0, .int .i64 0]) ?_ 1 _ rfl; (with_reducible repeat (first | refine blk_drewN ?_ _ | refine blk_drew ?_ | refine blk_alloc ?_ _)); refine blk_put (cs := #[.int .i64 0, .int .i64 0, .int .i64 0, .int .i64 0, .int .i64 0, .int .i64 0]) ?_ 0 _ rfl; (with_reducible repeat (first | refine blk_drewN ?_ _ | refine blk_drew ?_ | refine blk_alloc ?_ _)); exact BK227.out) hb); have n5_ := Aside0.mk (below_step (by repeat (first | (with_reducible first | exact HB.out | apply below_alloc | apply pw_below_drewN | apply below_drew1 | refine below_set ?_ GE220.out | refine below_set ?_ GE227.out) | exact HB.out)) hb); clear HO_6; clear HO_221001; clear HO_221002; clear BK220; clear BK227; clear HB; have HO_6 := n0_; have HO_221001 := n1_; have HO_221002 := n2_; have BK220 := n3_; have BK227 := n4_; have HB := n5_; clear n0_ n1_ n2_ n3_ n4_ n5_; (try clear hb); (try clear hb2); (try clear hk); (try clear hi)))
              have n0_ := Aside0.mk (Kd.R_drew HO_6.out)
              have n1_ := Aside0.mk (Kd.R_drew HO_221001.out)
              have n2_ := Aside0.mk (Kd.R_drew HO_221002.out)
              have n3_ := Aside0.mk (blk_drew BK220.out)
              have n4_ := Aside0.mk (blk_drew BK227.out)
              have n5_ := Aside0.mk (below_drew1 HB.out)
              clear HO_6
              clear HO_221001
              clear HO_221002
              clear BK220
              clear BK227
              clear HB
              have HO_6 := n0_
              have HO_221001 := n1_
              have HO_221002 := n2_
              have BK220 := n3_
              have BK227 := n4_
              have HB := n5_
              clear n0_ n1_ n2_ n3_ n4_ n5_
              refine start_ (n := 32) (S := fun w' => w'.cell? ⟨gb227, 0, none⟩ = some (.int .i64 ((rd_T31 t217 x19_1).f0)) ∧ w'.cell? ⟨gb227, 1, none⟩ = some (.int .i64 ((rd_T31 t217 x19_1).f1)) ∧ w'.cell? ⟨gb227, 2, none⟩ = some (.int .i64 ((rd_T31 t217 x19_1).f2)) ∧ w'.cell? ⟨gb227, 3, none⟩ = some (.int .i64 ((rd_T31 t217 x19_1).f3)) ∧ w'.cell? ⟨gb227, 4, none⟩ = some (.int .i64 ((rd_T31 t217 x19_1).f4)) ∧ w'.cell? ⟨gb227, 5, none⟩ = some (.int .i64 ((rd_T31 t217 x19_1).f5))) (ds := []) #[false, false, false, false, false, false, false, false, false, false, false, false, false, false, false, false, false, false, false, false, false, false, false, false, false, false, false, false, false, false, false, false] (by kernel_rfl) rfl rfl ⟨(blk_cell BK227.out 0).trans rfl, (blk_cell BK227.out 1).trans rfl, (blk_cell BK227.out 2).trans rfl, (blk_cell BK227.out 3).trans rfl, (blk_cell BK227.out 4).trans rfl, (blk_cell BK227.out 5).trans rfl⟩ (fun hHeld => ?_); refine with_tabW railplanlaw11_NetworkDurations.tab9 railplanlaw11_NetworkDurations.bits9 (fun HT_ HW_ => ?_)
              generalize w23.drew = w24 at HO_6 HO_221001 HO_221002 BK220 BK227 HB hHeld ⊢
              refine pure_ (i := 0) (N := some 31) (v := ?_) (a' := ?_) #[true, false, false, false, false, false, false, false, false, false, false, false, false, false, false, false, false, false, false, false, false, false, false, false, false, false, false, false, false, false, false, false] rfl rfl (any_of HT_.out (by kernel_rfl)) (fun _ _ _ h => h) (Or.inl ⟨by rfl, ?_⟩) ?_ ?_
              rotate_left
              · intro w'
                go_simp
                with_reducible rfl
              rotate_left
              · simp only [Act.put, List.setIfInBounds_toArray, List.set_cons_zero, List.set_cons_succ, i64_w, i32_w]
                rfl
              refine pure_ (i := 1) (N := some 32) (v := ?_) (a' := ?_) #[true, true, false, false, false, false, false, false, false, false, false, false, false, false, false, false, false, false, false, false, false, false, false, false, false, false, false, false, false, false, false, false] rfl rfl (any_of HT_.out (by kernel_rfl)) (fun _ _ _ h => h) (Or.inl ⟨by rfl, ?_⟩) ?_ ?_
              rotate_left
              · intro w'
                go_simp
                with_reducible rfl
              rotate_left
              · simp only [Act.put, List.setIfInBounds_toArray, List.set_cons_zero, List.set_cons_succ, i64_w, i32_w]
                rfl
              refine take_ (i := 2) (N := some 33) (v := ?_) (a' := ?_) #[true, true, true, false, false, false, false, false, false, false, false, false, false, false, false, false, false, false, false, false, false, false, false, false, false, false, false, false, false, false, false, false] rfl rfl (take_ofW HT_.out HW_.out (by kernel_rfl)) (fun _ _ _ h => h) (Or.inl ⟨by rfl, ?_⟩) hHeld ?_ ?_
              rotate_left
              · rintro w' ⟨s0, s1, s2, s3, s4, s5⟩
                go_simp
                with_reducible rfl
              rotate_left
              · simp only [Act.put, List.setIfInBounds_toArray, List.set_cons_zero, List.set_cons_succ, i64_w, i32_w]
                rfl
              refine pure_ (i := 3) (N := some 34) (v := ?_) (a' := ?_) #[true, true, true, true, false, false, false, false, false, false, false, false, false, false, false, false, false, false, false, false, false, false, false, false, false, false, false, false, false, false, false, false] rfl rfl (any_of HT_.out (by kernel_rfl)) (fun _ _ _ h => h) (Or.inl ⟨by rfl, ?_⟩) ?_ ?_
              rotate_left
              · intro w'
                go_simp
                with_reducible rfl
              rotate_left
              · simp only [Act.put, List.setIfInBounds_toArray, List.set_cons_zero, List.set_cons_succ, i64_w, i32_w]
                rfl
              refine pure_ (i := 4) (N := some 35) (v := ?_) (a' := ?_) #[true, true, true, true, true, false, false, false, false, false, false, false, false, false, false, false, false, false, false, false, false, false, false, false, false, false, false, false, false, false, false, false] rfl rfl (any_of HT_.out (by kernel_rfl)) (fun _ _ _ h => h) (Or.inl ⟨by rfl, ?_⟩) ?_ ?_
              rotate_left
              · intro w'
                go_simp
                with_reducible rfl
              rotate_left
              · simp only [Act.put, List.setIfInBounds_toArray, List.set_cons_zero, List.set_cons_succ, i64_w, i32_w]
                rfl
              refine pure_ (i := 5) (N := some 36) (v := undef) (a' := ?_) #[true, true, true, true, true, true, false, false, false, false, false, false, false, false, false, false, false, false, false, false, false, false, false, false, false, false, false, false, false, false, false, false] rfl rfl (any_of HT_.out (by kernel_rfl)) (fun _ _ _ h => h) (Or.inr ⟨by rfl, rfl⟩) ?_ ?_
              rotate_left
              · simp only [Act.put, List.setIfInBounds_toArray, List.set_cons_zero, List.set_cons_succ, i64_w, i32_w]
                rfl
              refine pure_ (i := 6) (N := some 37) (v := undef) (a' := ?_) #[true, true, true, true, true, true, true, false, false, false, false, false, false, false, false, false, false, false, false, false, false, false, false, false, false, false, false, false, false, false, false, false] rfl rfl (any_of HT_.out (by kernel_rfl)) (fun _ _ _ h => h) (Or.inr ⟨by rfl, rfl⟩) ?_ ?_
              rotate_left
              · simp only [Act.put, List.setIfInBounds_toArray, List.set_cons_zero, List.set_cons_succ, i64_w, i32_w]
                rfl
              refine pure_ (i := 7) (N := some 38) (v := undef) (a' := ?_) #[true, true, true, true, true, true, true, true, false, false, false, false, false, false, false, false, false, false, false, false, false, false, false, false, false, false, false, false, false, false, false, false] rfl rfl (any_of HT_.out (by kernel_rfl)) (fun _ _ _ h => h) (Or.inr ⟨by rfl, rfl⟩) ?_ ?_
              rotate_left
              · simp only [Act.put, List.setIfInBounds_toArray, List.set_cons_zero, List.set_cons_succ, i64_w, i32_w]
                rfl
              refine pure_ (i := 8) (N := some 39) (v := undef) (a' := ?_) #[true, true, true, true, true, true, true, true, true, false, false, false, false, false, false, false, false, false, false, false, false, false, false, false, false, false, false, false, false, false, false, false] rfl rfl (any_of HT_.out (by kernel_rfl)) (fun _ _ _ h => h) (Or.inr ⟨by rfl, rfl⟩) ?_ ?_
              rotate_left
              · simp only [Act.put, List.setIfInBounds_toArray, List.set_cons_zero, List.set_cons_succ, i64_w, i32_w]
                rfl
              refine pure_ (i := 9) (N := some 40) (v := undef) (a' := ?_) #[true, true, true, true, true, true, true, true, true, true, false, false, false, false, false, false, false, false, false, false, false, false, false, false, false, false, false, false, false, false, false, false] rfl rfl (any_of HT_.out (by kernel_rfl)) (fun _ _ _ h => h) (Or.inr ⟨by rfl, rfl⟩) ?_ ?_
              rotate_left
              · simp only [Act.put, List.setIfInBounds_toArray, List.set_cons_zero, List.set_cons_succ, i64_w, i32_w]
                rfl
              refine pure_ (i := 10) (N := some 41) (v := undef) (a' := ?_) #[true, true, true, true, true, true, true, true, true, true, true, false, false, false, false, false, false, false, false, false, false, false, false, false, false, false, false, false, false, false, false, false] rfl rfl (any_of HT_.out (by kernel_rfl)) (fun _ _ _ h => h) (Or.inr ⟨by rfl, rfl⟩) ?_ ?_
              rotate_left
              · simp only [Act.put, List.setIfInBounds_toArray, List.set_cons_zero, List.set_cons_succ, i64_w, i32_w]
                rfl
              refine pure_ (i := 11) (N := some 42) (v := undef) (a' := ?_) #[true, true, true, true, true, true, true, true, true, true, true, true, false, false, false, false, false, false, false, false, false, false, false, false, false, false, false, false, false, false, false, false] rfl rfl (any_of HT_.out (by kernel_rfl)) (fun _ _ _ h => h) (Or.inr ⟨by rfl, rfl⟩) ?_ ?_
              rotate_left
              · simp only [Act.put, List.setIfInBounds_toArray, List.set_cons_zero, List.set_cons_succ, i64_w, i32_w]
                rfl
              refine pure_ (i := 12) (N := some 43) (v := ?_) (a' := ?_) #[true, true, true, true, true, true, true, true, true, true, true, true, true, false, false, false, false, false, false, false, false, false, false, false, false, false, false, false, false, false, false, false] rfl rfl (any_of HT_.out (by kernel_rfl)) (fun _ _ _ h => h) (Or.inl ⟨by rfl, ?_⟩) ?_ ?_
              rotate_left
              · intro w'
                go_simp
                with_reducible rfl
              rotate_left
              · simp only [Act.put, List.setIfInBounds_toArray, List.set_cons_zero, List.set_cons_succ, i64_w, i32_w]
                rfl
              refine pure_ (i := 13) (N := some 44) (v := ?_) (a' := ?_) #[true, true, true, true, true, true, true, true, true, true, true, true, true, true, false, false, false, false, false, false, false, false, false, false, false, false, false, false, false, false, false, false] rfl rfl (any_of HT_.out (by kernel_rfl)) (fun _ _ _ h => h) (Or.inl ⟨by rfl, ?_⟩) ?_ ?_
              rotate_left
              · intro w'
                go_simp
                with_reducible rfl
              rotate_left
              · simp only [Act.put, List.setIfInBounds_toArray, List.set_cons_zero, List.set_cons_succ, i64_w, i32_w]
                rfl
              refine pure_ (i := 14) (N := some 45) (v := undef) (a' := ?_) #[true, true, true, true, true, true, true, true, true, true, true, true, true, true, true, false, false, false, false, false, false, false, false, false, false, false, false, false, false, false, false, false] rfl rfl (any_of HT_.out (by kernel_rfl)) (fun _ _ _ h => h) (Or.inr ⟨by rfl, rfl⟩) ?_ ?_
              rotate_left
              · simp only [Act.put, List.setIfInBounds_toArray, List.set_cons_zero, List.set_cons_succ, i64_w, i32_w]
                rfl
              refine pure_ (i := 15) (N := some 46) (v := undef) (a' := ?_) #[true, true, true, true, true, true, true, true, true, true, true, true, true, true, true, true, false, false, false, false, false, false, false, false, false, false, false, false, false, false, false, false] rfl rfl (any_of HT_.out (by kernel_rfl)) (fun _ _ _ h => h) (Or.inr ⟨by rfl, rfl⟩) ?_ ?_
              rotate_left
              · simp only [Act.put, List.setIfInBounds_toArray, List.set_cons_zero, List.set_cons_succ, i64_w, i32_w]
                rfl
              refine pure_ (i := 16) (N := some 47) (v := undef) (a' := ?_) #[true, true, true, true, true, true, true, true, true, true, true, true, true, true, true, true, true, false, false, false, false, false, false, false, false, false, false, false, false, false, false, false] rfl rfl (any_of HT_.out (by kernel_rfl)) (fun _ _ _ h => h) (Or.inr ⟨by rfl, rfl⟩) ?_ ?_
              rotate_left
              · simp only [Act.put, List.setIfInBounds_toArray, List.set_cons_zero, List.set_cons_succ, i64_w, i32_w]
                rfl
              refine pure_ (i := 17) (N := some 48) (v := undef) (a' := ?_) #[true, true, true, true, true, true, true, true, true, true, true, true, true, true, true, true, true, true, false, false, false, false, false, false, false, false, false, false, false, false, false, false] rfl rfl (any_of HT_.out (by kernel_rfl)) (fun _ _ _ h => h) (Or.inr ⟨by rfl, rfl⟩) ?_ ?_
              rotate_left
              · simp only [Act.put, List.setIfInBounds_toArray, List.set_cons_zero, List.set_cons_succ, i64_w, i32_w]
                rfl
              refine pure_ (i := 18) (N := some 49) (v := undef) (a' := ?_) #[true, true, true, true, true, true, true, true, true, true, true, true, true, true, true, true, true, true, true, false, false, false, false, false, false, false, false, false, false, false, false, false] rfl rfl (any_of HT_.out (by kernel_rfl)) (fun _ _ _ h => h) (Or.inr ⟨by rfl, rfl⟩) ?_ ?_
              rotate_left
              · simp only [Act.put, List.setIfInBounds_toArray, List.set_cons_zero, List.set_cons_succ, i64_w, i32_w]
                rfl
              refine pure_ (i := 19) (N := some 50) (v := undef) (a' := ?_) #[true, true, true, true, true, true, true, true, true, true, true, true, true, true, true, true, true, true, true, true, false, false, false, false, false, false, false, false, false, false, false, false] rfl rfl (any_of HT_.out (by kernel_rfl)) (fun _ _ _ h => h) (Or.inr ⟨by rfl, rfl⟩) ?_ ?_
              rotate_left
              · simp only [Act.put, List.setIfInBounds_toArray, List.set_cons_zero, List.set_cons_succ, i64_w, i32_w]
                rfl
              refine pure_ (i := 20) (N := some 51) (v := undef) (a' := ?_) #[true, true, true, true, true, true, true, true, true, true, true, true, true, true, true, true, true, true, true, true, true, false, false, false, false, false, false, false, false, false, false, false] rfl rfl (any_of HT_.out (by kernel_rfl)) (fun _ _ _ h => h) (Or.inr ⟨by rfl, rfl⟩) ?_ ?_
              rotate_left
              · simp only [Act.put, List.setIfInBounds_toArray, List.set_cons_zero, List.set_cons_succ, i64_w, i32_w]
                rfl
              refine pure_ (i := 21) (N := some 52) (v := undef) (a' := ?_) #[true, true, true, true, true, true, true, true, true, true, true, true, true, true, true, true, true, true, true, true, true, true, false, false, false, false, false, false, false, false, false, false] rfl rfl (any_of HT_.out (by kernel_rfl)) (fun _ _ _ h => h) (Or.inr ⟨by rfl, rfl⟩) ?_ ?_
              rotate_left
              · simp only [Act.put, List.setIfInBounds_toArray, List.set_cons_zero, List.set_cons_succ, i64_w, i32_w]
                rfl
              refine pure_ (i := 22) (N := some 53) (v := undef) (a' := ?_) #[true, true, true, true, true, true, true, true, true, true, true, true, true, true, true, true, true, true, true, true, true, true, true, false, false, false, false, false, false, false, false, false] rfl rfl (any_of HT_.out (by kernel_rfl)) (fun _ _ _ h => h) (Or.inr ⟨by rfl, rfl⟩) ?_ ?_
              rotate_left
              · simp only [Act.put, List.setIfInBounds_toArray, List.set_cons_zero, List.set_cons_succ, i64_w, i32_w]
                rfl
              refine pure_ (i := 23) (N := some 54) (v := undef) (a' := ?_) #[true, true, true, true, true, true, true, true, true, true, true, true, true, true, true, true, true, true, true, true, true, true, true, true, false, false, false, false, false, false, false, false] rfl rfl (any_of HT_.out (by kernel_rfl)) (fun _ _ _ h => h) (Or.inr ⟨by rfl, rfl⟩) ?_ ?_
              rotate_left
              · simp only [Act.put, List.setIfInBounds_toArray, List.set_cons_zero, List.set_cons_succ, i64_w, i32_w]
                rfl
              refine pure_ (i := 24) (N := some 55) (v := undef) (a' := ?_) #[true, true, true, true, true, true, true, true, true, true, true, true, true, true, true, true, true, true, true, true, true, true, true, true, true, false, false, false, false, false, false, false] rfl rfl (any_of HT_.out (by kernel_rfl)) (fun _ _ _ h => h) (Or.inr ⟨by rfl, rfl⟩) ?_ ?_
              rotate_left
              · simp only [Act.put, List.setIfInBounds_toArray, List.set_cons_zero, List.set_cons_succ, i64_w, i32_w]
                rfl
              refine pure_ (i := 25) (N := some 56) (v := undef) (a' := ?_) #[true, true, true, true, true, true, true, true, true, true, true, true, true, true, true, true, true, true, true, true, true, true, true, true, true, true, false, false, false, false, false, false] rfl rfl (any_of HT_.out (by kernel_rfl)) (fun _ _ _ h => h) (Or.inr ⟨by rfl, rfl⟩) ?_ ?_
              rotate_left
              · simp only [Act.put, List.setIfInBounds_toArray, List.set_cons_zero, List.set_cons_succ, i64_w, i32_w]
                rfl
              refine pure_ (i := 26) (N := some 57) (v := undef) (a' := ?_) #[true, true, true, true, true, true, true, true, true, true, true, true, true, true, true, true, true, true, true, true, true, true, true, true, true, true, true, false, false, false, false, false] rfl rfl (any_of HT_.out (by kernel_rfl)) (fun _ _ _ h => h) (Or.inr ⟨by rfl, rfl⟩) ?_ ?_
              rotate_left
              · simp only [Act.put, List.setIfInBounds_toArray, List.set_cons_zero, List.set_cons_succ, i64_w, i32_w]
                rfl
              refine pure_ (i := 27) (N := some 58) (v := undef) (a' := ?_) #[true, true, true, true, true, true, true, true, true, true, true, true, true, true, true, true, true, true, true, true, true, true, true, true, true, true, true, true, false, false, false, false] rfl rfl (any_of HT_.out (by kernel_rfl)) (fun _ _ _ h => h) (Or.inr ⟨by rfl, rfl⟩) ?_ ?_
              rotate_left
              · simp only [Act.put, List.setIfInBounds_toArray, List.set_cons_zero, List.set_cons_succ, i64_w, i32_w]
                rfl
              refine pure_ (i := 28) (N := some 59) (v := undef) (a' := ?_) #[true, true, true, true, true, true, true, true, true, true, true, true, true, true, true, true, true, true, true, true, true, true, true, true, true, true, true, true, true, false, false, false] rfl rfl (any_of HT_.out (by kernel_rfl)) (fun _ _ _ h => h) (Or.inr ⟨by rfl, rfl⟩) ?_ ?_
              rotate_left
              · simp only [Act.put, List.setIfInBounds_toArray, List.set_cons_zero, List.set_cons_succ, i64_w, i32_w]
                rfl
              refine pure_ (i := 29) (N := some 60) (v := undef) (a' := ?_) #[true, true, true, true, true, true, true, true, true, true, true, true, true, true, true, true, true, true, true, true, true, true, true, true, true, true, true, true, true, true, false, false] rfl rfl (any_of HT_.out (by kernel_rfl)) (fun _ _ _ h => h) (Or.inr ⟨by rfl, rfl⟩) ?_ ?_
              rotate_left
              · simp only [Act.put, List.setIfInBounds_toArray, List.set_cons_zero, List.set_cons_succ, i64_w, i32_w]
                rfl
              refine pure_ (i := 30) (N := some 61) (v := undef) (a' := ?_) #[true, true, true, true, true, true, true, true, true, true, true, true, true, true, true, true, true, true, true, true, true, true, true, true, true, true, true, true, true, true, true, false] rfl rfl (any_of HT_.out (by kernel_rfl)) (fun _ _ _ h => h) (Or.inr ⟨by rfl, rfl⟩) ?_ ?_
              rotate_left
              · simp only [Act.put, List.setIfInBounds_toArray, List.set_cons_zero, List.set_cons_succ, i64_w, i32_w]
                rfl
              refine pure_ (i := 31) (N := some 62) (v := ?_) (a' := ?_) #[true, true, true, true, true, true, true, true, true, true, true, true, true, true, true, true, true, true, true, true, true, true, true, true, true, true, true, true, true, true, true, true] rfl rfl (any_of HT_.out (by kernel_rfl)) (fun _ _ _ h => h) (Or.inl ⟨by rfl, ?_⟩) ?_ ?_
              rotate_left
              · intro w'
                go_simp
                with_reducible rfl
              rotate_left
              · simp only [Act.put, List.setIfInBounds_toArray, List.set_cons_zero, List.set_cons_succ, i64_w, i32_w]
                rfl
              refine done_ (done_of HT_.out (by kernel_rfl)) ?_
              try go_wp2
              go_ret
              exact ⟨by first | rfl | (simp [errW_none, errW_some] <;> rfl) | (simp [*, errW_none, errW_some] <;> rfl), by repeat (first | (with_reducible first | exact HB.out | apply below_alloc | apply pw_below_drewN | apply below_drew1 | refine below_set ?_ GE220.out | refine below_set ?_ GE227.out) | exact HB.out)⟩
            · rw [if_neg c16] at H
              have c16b0 : decide (t228 < ((rd_T31 t217 x19_1).f3)) = false := decide_eq_false c16
              clear c16
              by_cases c25 : t228 ≥ (wrap64 (((rd_T31 t217 x19_1).f3) + t213))
              · rw [if_pos c25] at H
                have c25b0 : decide ((wrap64 (((rd_T31 t217 x19_1).f3) + t213)) ≤ t228) = true := decide_eq_true c25
                clear c25
                obtain rfl := Option.some.inj H
                have hcz26_0 : wr.cell? ⟨gb220, 0, none⟩ = some (.int .i64 t213) := (blk_cell BK220.out 0).trans rfl
                have hcz26_1 : wr.cell? ⟨gb220, 1, none⟩ = some (.slice Ao8 t214.length co8) := (blk_cell BK220.out 1).trans rfl
                have hcz26_2 : wr.cell? ⟨gb220, 2, none⟩ = some (.slice Ao9 t217.length co9) := (blk_cell BK220.out 2).trans rfl
                have hfz26_0 := blk_frozen BK220.out 0
                have hfz26_1 := blk_frozen BK220.out 1
                have hfz26_2 := blk_frozen BK220.out 2
                have p226 : 0 ≤ (x19_1 : Int) := of_decide_eq_true (by first | (with_reducible assumption) | assumption)
                have q226 : x19_1 < (t217.length : Int) := of_decide_eq_true (by first | (with_reducible assumption) | assumption)
                obtain ⟨ad226, e226, hx226_0, hx226_1, hx226_2, hx226_3, hx226_4, hx226_5⟩ := at_T31 (Kd.R_reads' HO_221002.out).2.2 x19_1 p226 q226
                cases e226
                replace p226 := eq_true p226
                replace q226 := eq_true q226
                try go_wp2_with (first | ((with_reducible refine gate_dst (N := 9) rfl ?_); refine box_event ?hg (N := 9) ?hd (cs := #[.int .i64 0, .int .i64 0, .int .i64 0, .int .i64 0, .int .i64 0, .int .i64 0]) (t := 31) ?hr ?_; (case hd => rfl); (case hg => rfl); (case hr => first | (go_simp; done) | (go_simp; rfl)); intro gb227 hg w27 hbox hb; have n0_ := Aside0.mk (Kd.R_below (by (with_reducible repeat (first | apply Kd.R_alloc | apply Kd.R_drewN | apply Kd.R_drew)); exact HO_6.out) hb); have n1_ := Aside0.mk (Kd.R_below (by (with_reducible repeat (first | apply Kd.R_alloc | apply Kd.R_drewN | apply Kd.R_drew)); exact HO_221001.out) hb); have n2_ := Aside0.mk (Kd.R_below (Kd.R_elderB (by (with_reducible repeat (first | apply Kd.R_alloc | apply Kd.R_drewN | apply Kd.R_drew)); exact HO_221002.out) gb227 (Nat.le_of_eq hg.symm)) hb); have n3_ := Aside0.mk (blk_below (g := gb220) (o := .cells #[.int .i64 t213, .slice Ao8 t214.length co8, .slice (some ad226) t217.length co9] 26 (0, 0)) (by (with_reducible repeat (first | refine blk_drewN ?_ _ | refine blk_drew ?_ | refine blk_alloc ?_ _)); exact BK220.out) hb); have n4_ := Aside0.mk (below_step (by repeat (first | (with_reducible first | exact HB.out | apply below_alloc | apply pw_below_drewN | apply below_drew1 | refine below_set ?_ GE220.out) | exact HB.out)) hb); have n5_ := Aside0.mk (hbox); have n6_ := Aside0.mk ((by rw [hg]; exact (below_size (by repeat (first | (with_reducible first | exact HB.out | apply below_alloc | apply pw_below_drewN | apply below_drew1 | refine below_set ?_ GE220.out) | exact HB.out))) : w.heap.size ≤ gb227)); have n7_ := Aside0.mk ((by rw [hg]; exact (below_size (by repeat (first | (with_reducible first | exact HB.out | apply below_alloc | apply pw_below_drewN | apply below_drew1 | refine below_set ?_ GE220.out) | exact HB.out))) : w.heap.size ≤ gb227)); have n8_ := Aside0.mk ((by rw [hg]; exact Nat.ne_of_lt (blk_lt (g := gb220) (o := .cells #[.int .i64 t213, .slice Ao8 t214.length co8, .slice (some ad226) t217.length co9] 26 (0, 0)) (by (with_reducible repeat (first | refine blk_drewN ?_ _ | refine blk_drew ?_ | refine blk_alloc ?_ _)); exact BK220.out)) : gb220 ≠ gb227)); have n9_ := Aside0.mk ((by rw [hg]; exact Nat.ne_of_gt (blk_lt (g := gb220) (o := .cells #[.int .i64 t213, .slice Ao8 t214.length co8, .slice (some ad226) t217.length co9] 26 (0, 0)) (by (with_reducible repeat (first | refine blk_drewN ?_ _ | refine blk_drew ?_ | refine blk_alloc ?_ _)); exact BK220.out)) : gb227 ≠ gb220)); clear HO_6; clear HO_221001; clear HO_221002; clear BK220; clear HB; have HO_6 := n0_; have HO_221001 := n1_; have HO_221002 := n2_; have BK220 := n3_; have HB := n4_; have BK227 := n5_; have GW227 := n6_; have GE227 := n7_; have NB220_227 := n8_; have NB227_220 := n9_; clear n0_ n1_ n2_ n3_ n4_ n5_ n6_ n7_ n8_ n9_; clear hb hbox hg; have hnb28 := NB227_220.out; have hnc28 := NB220_227.out; have hcz29_0 : w27.cell? ⟨gb227, 0, none⟩ = some (.int .i64 0) := (blk_cell BK227.out 0).trans rfl; have hcz29_1 : w27.cell? ⟨gb227, 1, none⟩ = some (.int .i64 0) := (blk_cell BK227.out 1).trans rfl; have hcz29_2 : w27.cell? ⟨gb227, 2, none⟩ = some (.int .i64 0) := (blk_cell BK227.out 2).trans rfl; have hcz29_3 : w27.cell? ⟨gb227, 3, none⟩ = some (.int .i64 0) := (blk_cell BK227.out 3).trans rfl; have hcz29_4 : w27.cell? ⟨gb227, 4, none⟩ = some (.int .i64 0) := (blk_cell BK227.out 4).trans rfl; have hcz29_5 : w27.cell? ⟨gb227, 5, none⟩ = some (.int .i64 0) := (blk_cell BK227.out 5).trans rfl; have hfz29_0 := blk_frozen BK227.out 0; have hfz29_1 := blk_frozen BK227.out 1; have hfz29_2 := blk_frozen BK227.out 2; have hfz29_3 := blk_frozen BK227.out 3; have hfz29_4 := blk_frozen BK227.out 4; have hfz29_5 := blk_frozen BK227.out 5; have hcz30_0 : w27.cell? ⟨gb220, 0, none⟩ = some (.int .i64 t213) := (blk_cell BK220.out 0).trans rfl; have hcz30_1 : w27.cell? ⟨gb220, 1, none⟩ = some (.slice Ao8 t214.length co8) := (blk_cell BK220.out 1).trans rfl; have hcz30_2 : w27.cell? ⟨gb220, 2, none⟩ = some (.slice (some ad226) t217.length co9) := (blk_cell BK220.out 2).trans rfl; have hfz30_0 := blk_frozen BK220.out 0; have hfz30_1 := blk_frozen BK220.out 1; have hfz30_2 := blk_frozen BK220.out 2; obtain ⟨Ao31, co31, eo31⟩ := Kd.R_slice HO_6.out; subst eo31) | ((with_reducible refine gate_callee (f := 15) rfl ?_); refine goesL_ (some 30) rfl rfl Try.func15 (by kernel_rfl) rfl #[.agg #[.int .i64 t213, .slice Ao8 t214.length co8, .slice (some ad226) t217.length co9], .slice Ao31 t221.length co31, .int .i64 x19_1] rfl (by (try simp only [List.map_toArray, List.map_cons, List.map_nil]); first | done | rfl | (simp only [List.length_drop, List.length_take]; rfl)) ?_; (with_reducible refine (network_Duration.calls t213 _ _ t214 _ _ t217 _ _ t221 x19_1 t228 _ ?side1 ?side2 ?side3 ?side4 ?side5 ?side6 A15.out).mono ?_); (case side1 => refine (Kd.R_reads' (e := 46) (base := w.heap.size) (ok := fun k_ => True) (n := t214.length) (c := co8) ?_).2.2; exact (by (with_reducible repeat (first | apply Kd.R_alloc | apply Kd.R_drewN | apply Kd.R_drew)); exact (Kd.R_mono (Kd.R_far (p := ⟨gb227, 5, none⟩) (Kd.R_far (p := ⟨gb227, 4, none⟩) (Kd.R_far (p := ⟨gb227, 3, none⟩) (Kd.R_far (p := ⟨gb227, 2, none⟩) (Kd.R_far (p := ⟨gb227, 1, none⟩) (Kd.R_far (p := ⟨gb227, 0, none⟩) (Kd.R_types HO_221001.out BK227.out (by decide)) (fun _ hk => hk.2) (.int .i64 ((rd_T31 t217 x19_1).f0))) (fun _ hk => hk.2) (.int .i64 ((rd_T31 t217 x19_1).f1))) (fun _ hk => hk.2) (.int .i64 ((rd_T31 t217 x19_1).f2))) (fun _ hk => hk.2) (.int .i64 ((rd_T31 t217 x19_1).f3))) (fun _ hk => hk.2) (.int .i64 ((rd_T31 t217 x19_1).f4))) (fun _ hk => hk.2) (.int .i64 ((rd_T31 t217 x19_1).f5))) (fun _ h_ => h_.1)))); (case side2 => exact (Kd.R_reads' HO_221001.out).2.1); (case side3 => refine (Kd.R_reads' (e := 31) (base := w.heap.size) (ok := fun k_ => (True ∧ k_ ≠ gb227)) (n := t217.length) (c := co9) ?_).2.2; exact (by (with_reducible repeat (first | apply Kd.R_alloc | apply Kd.R_drewN | apply Kd.R_drew)); exact (Kd.R_mono (Kd.R_far (p := ⟨gb227, 5, none⟩) (Kd.R_far (p := ⟨gb227, 4, none⟩) (Kd.R_far (p := ⟨gb227, 3, none⟩) (Kd.R_far (p := ⟨gb227, 2, none⟩) (Kd.R_far (p := ⟨gb227, 1, none⟩) (Kd.R_far (p := ⟨gb227, 0, none⟩) (Kd.R_mono HO_221002.out (fun k_ hk => (⟨hk, hk.2⟩ : _ ∧ k_ ≠ gb227))) (fun _ hk => hk.2) (.int .i64 ((rd_T31 t217 x19_1).f0))) (fun _ hk => hk.2) (.int .i64 ((rd_T31 t217 x19_1).f1))) (fun _ hk => hk.2) (.int .i64 ((rd_T31 t217 x19_1).f2))) (fun _ hk => hk.2) (.int .i64 ((rd_T31 t217 x19_1).f3))) (fun _ hk => hk.2) (.int .i64 ((rd_T31 t217 x19_1).f4))) (fun _ hk => hk.2) (.int .i64 ((rd_T31 t217 x19_1).f5))) (fun _ h_ => h_.1)))); (case side4 => exact (Kd.R_reads' HO_221002.out).2.1); (case side5 => refine (Kd.R_reads' (e := 3) (base := w.heap.size) (ok := fun k_ => True) (n := t221.length) (c := co31) ?_).2.2; exact (by (with_reducible repeat (first | apply Kd.R_alloc | apply Kd.R_drewN | apply Kd.R_drew)); exact (Kd.R_mono (Kd.R_far (p := ⟨gb227, 5, none⟩) (Kd.R_far (p := ⟨gb227, 4, none⟩) (Kd.R_far (p := ⟨gb227, 3, none⟩) (Kd.R_far (p := ⟨gb227, 2, none⟩) (Kd.R_far (p := ⟨gb227, 1, none⟩) (Kd.R_far (p := ⟨gb227, 0, none⟩) (Kd.R_types HO_6.out BK227.out (by decide)) (fun _ hk => hk.2) (.int .i64 ((rd_T31 t217 x19_1).f0))) (fun _ hk => hk.2) (.int .i64 ((rd_T31 t217 x19_1).f1))) (fun _ hk => hk.2) (.int .i64 ((rd_T31 t217 x19_1).f2))) (fun _ hk => hk.2) (.int .i64 ((rd_T31 t217 x19_1).f3))) (fun _ hk => hk.2) (.int .i64 ((rd_T31 t217 x19_1).f4))) (fun _ hk => hk.2) (.int .i64 ((rd_T31 t217 x19_1).f5))) (fun _ h_ => h_.1)))); (case side6 => exact (Kd.R_reads' HO_6.out).2.1); rintro e w32 ⟨rfl, hb⟩; refine ⟨_, rfl, ?_⟩; have n0_ := Aside0.mk (Kd.R_below (by (with_reducible repeat (first | apply Kd.R_alloc | apply Kd.R_drewN | apply Kd.R_drew)); exact (Kd.R_mono (Kd.R_far (p := ⟨gb227, 5, none⟩) (Kd.R_far (p := ⟨gb227, 4, none⟩) (Kd.R_far (p := ⟨gb227, 3, none⟩) (Kd.R_far (p := ⟨gb227, 2, none⟩) (Kd.R_far (p := ⟨gb227, 1, none⟩) (Kd.R_far (p := ⟨gb227, 0, none⟩) (Kd.R_types HO_6.out BK227.out (by decide)) (fun _ hk => hk.2) (.int .i64 ((rd_T31 t217 x19_1).f0))) (fun _ hk => hk.2) (.int .i64 ((rd_T31 t217 x19_1).f1))) (fun _ hk => hk.2) (.int .i64 ((rd_T31 t217 x19_1).f2))) (fun _ hk => hk.2) (.int .i64 ((rd_T31 t217 x19_1).f3))) (fun _ hk => hk.2) (.int .i64 ((rd_T31 t217 x19_1).f4))) (fun _ hk => hk.2) (.int .i64 ((rd_T31 t217 x19_1).f5))) (fun _ h_ => h_.1))) hb); have n1_ := Aside0.mk (Kd.R_below (by (with_reducible repeat (first | apply Kd.R_alloc | apply Kd.R_drewN | apply Kd.R_drew)); exact (Kd.R_mono (Kd.R_far (p := ⟨gb227, 5, none⟩) (Kd.R_far (p := ⟨gb227, 4, none⟩) (Kd.R_far (p := ⟨gb227, 3, none⟩) (Kd.R_far (p := ⟨gb227, 2, none⟩) (Kd.R_far (p := ⟨gb227, 1, none⟩) (Kd.R_far (p := ⟨gb227, 0, none⟩) (Kd.R_types HO_221001.out BK227.out (by decide)) (fun _ hk => hk.2) (.int .i64 ((rd_T31 t217 x19_1).f0))) (fun _ hk => hk.2) (.int .i64 ((rd_T31 t217 x19_1).f1))) (fun _ hk => hk.2) (.int .i64 ((rd_T31 t217 x19_1).f2))) (fun _ hk => hk.2) (.int .i64 ((rd_T31 t217 x19_1).f3))) (fun _ hk => hk.2) (.int .i64 ((rd_T31 t217 x19_1).f4))) (fun _ hk => hk.2) (.int .i64 ((rd_T31 t217 x19_1).f5))) (fun _ h_ => h_.1))) hb); have n2_ := Aside0.mk (Kd.R_below (by (with_reducible repeat (first | apply Kd.R_alloc | apply Kd.R_drewN | apply Kd.R_drew)); exact (Kd.R_mono (Kd.R_far (p := ⟨gb227, 5, none⟩) (Kd.R_far (p := ⟨gb227, 4, none⟩) (Kd.R_far (p := ⟨gb227, 3, none⟩) (Kd.R_far (p := ⟨gb227, 2, none⟩) (Kd.R_far (p := ⟨gb227, 1, none⟩) (Kd.R_far (p := ⟨gb227, 0, none⟩) (Kd.R_mono HO_221002.out (fun k_ hk => (⟨hk, hk.2⟩ : _ ∧ k_ ≠ gb227))) (fun _ hk => hk.2) (.int .i64 ((rd_T31 t217 x19_1).f0))) (fun _ hk => hk.2) (.int .i64 ((rd_T31 t217 x19_1).f1))) (fun _ hk => hk.2) (.int .i64 ((rd_T31 t217 x19_1).f2))) (fun _ hk => hk.2) (.int .i64 ((rd_T31 t217 x19_1).f3))) (fun _ hk => hk.2) (.int .i64 ((rd_T31 t217 x19_1).f4))) (fun _ hk => hk.2) (.int .i64 ((rd_T31 t217 x19_1).f5))) (fun _ h_ => h_.1))) hb); have n3_ := Aside0.mk (blk_below (g := gb220) (o := .cells #[.int .i64 t213, .slice Ao8 t214.length co8, .slice (some ad226) t217.length co9] 26 (0, 0)) (by (with_reducible repeat (first | refine blk_drewN ?_ _ | refine blk_drew ?_ | refine blk_alloc ?_ _)); refine blk_far ?_ NB220_227.out _; (with_reducible repeat (first | refine blk_drewN ?_ _ | refine blk_drew ?_ | refine blk_alloc ?_ _)); refine blk_far ?_ NB220_227.out _; (with_reducible repeat (first | refine blk_drewN ?_ _ | refine blk_drew ?_ | refine blk_alloc ?_ _)); refine blk_far ?_ NB220_227.out _; (with_reducible repeat (first | refine blk_drewN ?_ _ | refine blk_drew ?_ | refine blk_alloc ?_ _)); refine blk_far ?_ NB220_227.out _; (with_reducible repeat (first | refine blk_drewN ?_ _ | refine blk_drew ?_ | refine blk_alloc ?_ _)); refine blk_far ?_ NB220_227.out _; (with_reducible repeat (first | refine blk_drewN ?_ _ | refine blk_drew ?_ | refine blk_alloc ?_ _)); refine blk_far ?_ NB220_227.out _; (with_reducible repeat (first | refine blk_drewN ?_ _ | refine blk_drew ?_ | refine blk_alloc ?_ _)); exact BK220.out) hb); have n4_ := Aside0.mk (blk_below (g := gb227) (o := .cells #[.int .i64 ((rd_T31 t217 x19_1).f0), .int .i64 ((rd_T31 t217 x19_1).f1), .int .i64 ((rd_T31 t217 x19_1).f2), .int .i64 ((rd_T31 t217 x19_1).f3), .int .i64 ((rd_T31 t217 x19_1).f4), .int .i64 ((rd_T31 t217 x19_1).f5)] 31 (0, 0)) (by (with_reducible repeat (first | refine blk_drewN ?_ _ | refine blk_drew ?_ | refine blk_alloc ?_ _)); refine blk_put (cs := #[.int .i64 ((rd_T31 t217 x19_1).f0), .int .i64 ((rd_T31 t217 x19_1).f1), .int .i64 ((rd_T31 t217 x19_1).f2), .int .i64 ((rd_T31 t217 x19_1).f3), .int .i64 ((rd_T31 t217 x19_1).f4), .int .i64 0]) ?_ 5 _ rfl; (with_reducible repeat (first | refine blk_drewN ?_ _ | refine blk_drew ?_ | refine blk_alloc ?_ _)); refine blk_put (cs := #[.int .i64 ((rd_T31 t217 x19_1).f0), .int .i64 ((rd_T31 t217 x19_1).f1), .int .i64 ((rd_T31 t217 x19_1).f2), .int .i64 ((rd_T31 t217 x19_1).f3), .int .i64 0, .int .i64 0]) ?_ 4 _ rfl; (with_reducible repeat (first | refine blk_drewN ?_ _ | refine blk_drew ?_ | refine blk_alloc ?_ _)); refine blk_put (cs := #[.int .i64 ((rd_T31 t217 x19_1).f0), .int .i64 ((rd_T31 t217 x19_1).f1), .int .i64 ((rd_T31 t217 x19_1).f2), .int .i64 0, .int .i64 0, .int .i64 0]) ?_ 3 _ rfl; (with_reducible repeat (first | refine blk_drewN ?_ _ | refine blk_drew ?_ | refine blk_alloc ?_ _)); refine blk_put (cs := #[.int .i64 ((rd_T31 t217 x19_1).f0), .int .i64 ((rd_T31 t217 x19_1).f1), .int .i64 0, .int .i64 0, .int .i64 0, .int .i64 0]) ?_ 2 _ rfl; (with_reducible repeat (first | refine blk_drewN ?_ _ | refine blk_drew ?_ | refine blk_alloc ?_ _)); refine blk_put (cs := #[.int .i64 ((rd_T31 t217 x19_1).f0), .int .i64 0, .int .i64 0, .int .i64 0, .int .i64 0, .int .i64 0]) ?_ 1 _ rfl; (with_reducible repeat (first | refine blk_drewN ?_ _ | refine blk_drew ?_ | refine blk_alloc ?_ _)); refine blk_put (cs := #[.int .i64 0, .int .i64 0, .int .i64 0, .int .i64 0, .int .i64 0, .int .i64 0]) ?_ 0 _ rfl; (with_reducible repeat (first | refine blk_drewN ?_ _ | refine blk_drew ?_ | refine blk_alloc ?_ _)); exact BK227.out) hb); have n5_ := Aside0.mk (below_step (by repeat (first | (with_reducible first | exact HB.out | apply below_alloc | apply pw_below_drewN | apply below_drew1 | refine below_set ?_ GE220.out | refine below_set ?_ GE227.out) | exact HB.out)) hb); clear HO_6; clear HO_221001; clear HO_221002; clear BK220; clear BK227; clear HB; have HO_6 := n0_; have HO_221001 := n1_; have HO_221002 := n2_; have BK220 := n3_; have BK227 := n4_; have HB := n5_; clear n0_ n1_ n2_ n3_ n4_ n5_; (try clear hb); (try clear hb2); (try clear hk); (try clear hi)))
                have n0_ := Aside0.mk (Kd.R_drew HO_6.out)
                have n1_ := Aside0.mk (Kd.R_drew HO_221001.out)
                have n2_ := Aside0.mk (Kd.R_drew HO_221002.out)
                have n3_ := Aside0.mk (blk_drew BK220.out)
                have n4_ := Aside0.mk (blk_drew BK227.out)
                have n5_ := Aside0.mk (below_drew1 HB.out)
                clear HO_6
                clear HO_221001
                clear HO_221002
                clear BK220
                clear BK227
                clear HB
                have HO_6 := n0_
                have HO_221001 := n1_
                have HO_221002 := n2_
                have BK220 := n3_
                have BK227 := n4_
                have HB := n5_
                clear n0_ n1_ n2_ n3_ n4_ n5_
                refine start_ (n := 32) (S := fun w' => w'.cell? ⟨gb227, 0, none⟩ = some (.int .i64 ((rd_T31 t217 x19_1).f0)) ∧ w'.cell? ⟨gb227, 1, none⟩ = some (.int .i64 ((rd_T31 t217 x19_1).f1)) ∧ w'.cell? ⟨gb227, 2, none⟩ = some (.int .i64 ((rd_T31 t217 x19_1).f2)) ∧ w'.cell? ⟨gb227, 3, none⟩ = some (.int .i64 ((rd_T31 t217 x19_1).f3)) ∧ w'.cell? ⟨gb227, 4, none⟩ = some (.int .i64 ((rd_T31 t217 x19_1).f4)) ∧ w'.cell? ⟨gb227, 5, none⟩ = some (.int .i64 ((rd_T31 t217 x19_1).f5)) ∧ w'.cell? ⟨gb220, 0, none⟩ = some (.int .i64 t213) ∧ w'.cell? ⟨gb220, 1, none⟩ = some (.slice Ao8 t214.length co8) ∧ w'.cell? ⟨gb220, 2, none⟩ = some (.slice (some ad226) t217.length co9)) (ds := []) #[false, false, false, false, false, false, false, false, false, false, false, false, false, false, false, false, false, false, false, false, false, false, false, false, false, false, false, false, false, false, false, false] (by kernel_rfl) rfl rfl ⟨(blk_cell BK227.out 0).trans rfl, (blk_cell BK227.out 1).trans rfl, (blk_cell BK227.out 2).trans rfl, (blk_cell BK227.out 3).trans rfl, (blk_cell BK227.out 4).trans rfl, (blk_cell BK227.out 5).trans rfl, (blk_cell BK220.out 0).trans rfl, (blk_cell BK220.out 1).trans rfl, (blk_cell BK220.out 2).trans rfl⟩ (fun hHeld => ?_); refine with_tabW railplanlaw11_NetworkDurations.tab9 railplanlaw11_NetworkDurations.bits9 (fun HT_ HW_ => ?_)
                generalize w32.drew = w33 at HO_6 HO_221001 HO_221002 BK220 BK227 HB hHeld ⊢
                refine pure_ (i := 0) (N := some 31) (v := ?_) (a' := ?_) #[true, false, false, false, false, false, false, false, false, false, false, false, false, false, false, false, false, false, false, false, false, false, false, false, false, false, false, false, false, false, false, false] rfl rfl (any_of HT_.out (by kernel_rfl)) (fun _ _ _ h => h) (Or.inl ⟨by rfl, ?_⟩) ?_ ?_
                rotate_left
                · intro w'
                  go_simp
                  with_reducible rfl
                rotate_left
                · simp only [Act.put, List.setIfInBounds_toArray, List.set_cons_zero, List.set_cons_succ, i64_w, i32_w]
                  rfl
                refine pure_ (i := 1) (N := some 32) (v := ?_) (a' := ?_) #[true, true, false, false, false, false, false, false, false, false, false, false, false, false, false, false, false, false, false, false, false, false, false, false, false, false, false, false, false, false, false, false] rfl rfl (any_of HT_.out (by kernel_rfl)) (fun _ _ _ h => h) (Or.inl ⟨by rfl, ?_⟩) ?_ ?_
                rotate_left
                · intro w'
                  go_simp
                  with_reducible rfl
                rotate_left
                · simp only [Act.put, List.setIfInBounds_toArray, List.set_cons_zero, List.set_cons_succ, i64_w, i32_w]
                  rfl
                refine take_ (i := 2) (N := some 33) (v := ?_) (a' := ?_) #[true, true, true, false, false, false, false, false, false, false, false, false, false, false, false, false, false, false, false, false, false, false, false, false, false, false, false, false, false, false, false, false] rfl rfl (take_ofW HT_.out HW_.out (by kernel_rfl)) (fun _ _ _ h => h) (Or.inl ⟨by rfl, ?_⟩) hHeld ?_ ?_
                rotate_left
                · rintro w' ⟨s0, s1, s2, s3, s4, s5, s6, s7, s8⟩
                  go_simp
                  with_reducible rfl
                rotate_left
                · simp only [Act.put, List.setIfInBounds_toArray, List.set_cons_zero, List.set_cons_succ, i64_w, i32_w]
                  rfl
                refine pure_ (i := 3) (N := some 34) (v := ?_) (a' := ?_) #[true, true, true, true, false, false, false, false, false, false, false, false, false, false, false, false, false, false, false, false, false, false, false, false, false, false, false, false, false, false, false, false] rfl rfl (any_of HT_.out (by kernel_rfl)) (fun _ _ _ h => h) (Or.inl ⟨by rfl, ?_⟩) ?_ ?_
                rotate_left
                · intro w'
                  go_simp
                  with_reducible rfl
                rotate_left
                · simp only [Act.put, List.setIfInBounds_toArray, List.set_cons_zero, List.set_cons_succ, i64_w, i32_w]
                  rfl
                refine pure_ (i := 4) (N := some 35) (v := ?_) (a' := ?_) #[true, true, true, true, true, false, false, false, false, false, false, false, false, false, false, false, false, false, false, false, false, false, false, false, false, false, false, false, false, false, false, false] rfl rfl (any_of HT_.out (by kernel_rfl)) (fun _ _ _ h => h) (Or.inl ⟨by rfl, ?_⟩) ?_ ?_
                rotate_left
                · intro w'
                  go_simp
                  with_reducible rfl
                rotate_left
                · simp only [Act.put, List.setIfInBounds_toArray, List.set_cons_zero, List.set_cons_succ, i64_w, i32_w]
                  rfl
                refine pure_ (i := 5) (N := some 36) (v := ?_) (a' := ?_) #[true, true, true, true, true, true, false, false, false, false, false, false, false, false, false, false, false, false, false, false, false, false, false, false, false, false, false, false, false, false, false, false] rfl rfl (any_of HT_.out (by kernel_rfl)) (fun _ _ _ h => h) (Or.inl ⟨by rfl, ?_⟩) ?_ ?_
                rotate_left
                · intro w'
                  go_simp
                  with_reducible rfl
                rotate_left
                · simp only [Act.put, List.setIfInBounds_toArray, List.set_cons_zero, List.set_cons_succ, i64_w, i32_w]
                  rfl
                refine pure_ (i := 6) (N := some 37) (v := ?_) (a' := ?_) #[true, true, true, true, true, true, true, false, false, false, false, false, false, false, false, false, false, false, false, false, false, false, false, false, false, false, false, false, false, false, false, false] rfl rfl (any_of HT_.out (by kernel_rfl)) (fun _ _ _ h => h) (Or.inl ⟨by rfl, ?_⟩) ?_ ?_
                rotate_left
                · intro w'
                  go_simp
                  with_reducible rfl
                rotate_left
                · simp only [Act.put, List.setIfInBounds_toArray, List.set_cons_zero, List.set_cons_succ, i64_w, i32_w]
                  rfl
                refine pure_ (i := 8) (N := some 39) (v := ?_) (a' := ?_) #[true, true, true, true, true, true, true, false, true, false, false, false, false, false, false, false, false, false, false, false, false, false, false, false, false, false, false, false, false, false, false, false] rfl rfl (any_of HT_.out (by kernel_rfl)) (fun _ _ _ h => h) (Or.inl ⟨by rfl, ?_⟩) ?_ ?_
                rotate_left
                · intro w'
                  go_simp
                  with_reducible rfl
                rotate_left
                · simp only [Act.put, List.setIfInBounds_toArray, List.set_cons_zero, List.set_cons_succ, i64_w, i32_w]
                  rfl
                refine take_ (i := 7) (N := some 38) (v := ?_) (a' := ?_) #[true, true, true, true, true, true, true, true, true, false, false, false, false, false, false, false, false, false, false, false, false, false, false, false, false, false, false, false, false, false, false, false] rfl rfl (take_ofW HT_.out HW_.out (by kernel_rfl)) (fun _ _ _ h => h) (Or.inl ⟨by rfl, ?_⟩) hHeld ?_ ?_
                rotate_left
                · rintro w' ⟨s0, s1, s2, s3, s4, s5, s6, s7, s8⟩
                  go_simp
                  with_reducible rfl
                rotate_left
                · simp only [Act.put, List.setIfInBounds_toArray, List.set_cons_zero, List.set_cons_succ, i64_w, i32_w]
                  rfl
                refine take_ (i := 9) (N := some 40) (v := ?_) (a' := ?_) #[true, true, true, true, true, true, true, true, true, true, false, false, false, false, false, false, false, false, false, false, false, false, false, false, false, false, false, false, false, false, false, false] rfl rfl (take_ofW HT_.out HW_.out (by kernel_rfl)) (fun _ _ _ h => h) (Or.inl ⟨by rfl, ?_⟩) hHeld ?_ ?_
                rotate_left
                · rintro w' ⟨s0, s1, s2, s3, s4, s5, s6, s7, s8⟩
                  go_simp
                  with_reducible rfl
                rotate_left
                · simp only [Act.put, List.setIfInBounds_toArray, List.set_cons_zero, List.set_cons_succ, i64_w, i32_w]
                  rfl
                refine pure_ (i := 10) (N := some 41) (v := ?_) (a' := ?_) #[true, true, true, true, true, true, true, true, true, true, true, false, false, false, false, false, false, false, false, false, false, false, false, false, false, false, false, false, false, false, false, false] rfl rfl (any_of HT_.out (by kernel_rfl)) (fun _ _ _ h => h) (Or.inl ⟨by rfl, ?_⟩) ?_ ?_
                rotate_left
                · intro w'
                  go_simp
                  with_reducible rfl
                rotate_left
                · simp only [Act.put, List.setIfInBounds_toArray, List.set_cons_zero, List.set_cons_succ, i64_w, i32_w]
                  rfl
                refine pure_ (i := 11) (N := some 42) (v := ?_) (a' := ?_) #[true, true, true, true, true, true, true, true, true, true, true, true, false, false, false, false, false, false, false, false, false, false, false, false, false, false, false, false, false, false, false, false] rfl rfl (any_of HT_.out (by kernel_rfl)) (fun _ _ _ h => h) (Or.inl ⟨by rfl, ?_⟩) ?_ ?_
                rotate_left
                · intro w'
                  go_simp
                  with_reducible rfl
                rotate_left
                · simp only [Act.put, List.setIfInBounds_toArray, List.set_cons_zero, List.set_cons_succ, i64_w, i32_w]
                  rfl
                refine pure_ (i := 12) (N := some 43) (v := ?_) (a' := ?_) #[true, true, true, true, true, true, true, true, true, true, true, true, true, false, false, false, false, false, false, false, false, false, false, false, false, false, false, false, false, false, false, false] rfl rfl (any_of HT_.out (by kernel_rfl)) (fun _ _ _ h => h) (Or.inl ⟨by rfl, ?_⟩) ?_ ?_
                rotate_left
                · intro w'
                  go_simp
                  with_reducible rfl
                rotate_left
                · simp only [Act.put, List.setIfInBounds_toArray, List.set_cons_zero, List.set_cons_succ, i64_w, i32_w]
                  rfl
                refine pure_ (i := 13) (N := some 44) (v := ?_) (a' := ?_) #[true, true, true, true, true, true, true, true, true, true, true, true, true, true, false, false, false, false, false, false, false, false, false, false, false, false, false, false, false, false, false, false] rfl rfl (any_of HT_.out (by kernel_rfl)) (fun _ _ _ h => h) (Or.inl ⟨by rfl, ?_⟩) ?_ ?_
                rotate_left
                · intro w'
                  go_simp
                  with_reducible rfl
                rotate_left
                · simp only [Act.put, List.setIfInBounds_toArray, List.set_cons_zero, List.set_cons_succ, i64_w, i32_w]
                  rfl
                refine pure_ (i := 14) (N := some 45) (v := undef) (a' := ?_) #[true, true, true, true, true, true, true, true, true, true, true, true, true, true, true, false, false, false, false, false, false, false, false, false, false, false, false, false, false, false, false, false] rfl rfl (any_of HT_.out (by kernel_rfl)) (fun _ _ _ h => h) (Or.inr ⟨by rfl, rfl⟩) ?_ ?_
                rotate_left
                · simp only [Act.put, List.setIfInBounds_toArray, List.set_cons_zero, List.set_cons_succ, i64_w, i32_w]
                  rfl
                refine pure_ (i := 15) (N := some 46) (v := undef) (a' := ?_) #[true, true, true, true, true, true, true, true, true, true, true, true, true, true, true, true, false, false, false, false, false, false, false, false, false, false, false, false, false, false, false, false] rfl rfl (any_of HT_.out (by kernel_rfl)) (fun _ _ _ h => h) (Or.inr ⟨by rfl, rfl⟩) ?_ ?_
                rotate_left
                · simp only [Act.put, List.setIfInBounds_toArray, List.set_cons_zero, List.set_cons_succ, i64_w, i32_w]
                  rfl
                refine pure_ (i := 16) (N := some 47) (v := undef) (a' := ?_) #[true, true, true, true, true, true, true, true, true, true, true, true, true, true, true, true, true, false, false, false, false, false, false, false, false, false, false, false, false, false, false, false] rfl rfl (any_of HT_.out (by kernel_rfl)) (fun _ _ _ h => h) (Or.inr ⟨by rfl, rfl⟩) ?_ ?_
                rotate_left
                · simp only [Act.put, List.setIfInBounds_toArray, List.set_cons_zero, List.set_cons_succ, i64_w, i32_w]
                  rfl
                refine pure_ (i := 17) (N := some 48) (v := undef) (a' := ?_) #[true, true, true, true, true, true, true, true, true, true, true, true, true, true, true, true, true, true, false, false, false, false, false, false, false, false, false, false, false, false, false, false] rfl rfl (any_of HT_.out (by kernel_rfl)) (fun _ _ _ h => h) (Or.inr ⟨by rfl, rfl⟩) ?_ ?_
                rotate_left
                · simp only [Act.put, List.setIfInBounds_toArray, List.set_cons_zero, List.set_cons_succ, i64_w, i32_w]
                  rfl
                refine pure_ (i := 18) (N := some 49) (v := undef) (a' := ?_) #[true, true, true, true, true, true, true, true, true, true, true, true, true, true, true, true, true, true, true, false, false, false, false, false, false, false, false, false, false, false, false, false] rfl rfl (any_of HT_.out (by kernel_rfl)) (fun _ _ _ h => h) (Or.inr ⟨by rfl, rfl⟩) ?_ ?_
                rotate_left
                · simp only [Act.put, List.setIfInBounds_toArray, List.set_cons_zero, List.set_cons_succ, i64_w, i32_w]
                  rfl
                refine pure_ (i := 19) (N := some 50) (v := undef) (a' := ?_) #[true, true, true, true, true, true, true, true, true, true, true, true, true, true, true, true, true, true, true, true, false, false, false, false, false, false, false, false, false, false, false, false] rfl rfl (any_of HT_.out (by kernel_rfl)) (fun _ _ _ h => h) (Or.inr ⟨by rfl, rfl⟩) ?_ ?_
                rotate_left
                · simp only [Act.put, List.setIfInBounds_toArray, List.set_cons_zero, List.set_cons_succ, i64_w, i32_w]
                  rfl
                refine pure_ (i := 20) (N := some 51) (v := undef) (a' := ?_) #[true, true, true, true, true, true, true, true, true, true, true, true, true, true, true, true, true, true, true, true, true, false, false, false, false, false, false, false, false, false, false, false] rfl rfl (any_of HT_.out (by kernel_rfl)) (fun _ _ _ h => h) (Or.inr ⟨by rfl, rfl⟩) ?_ ?_
                rotate_left
                · simp only [Act.put, List.setIfInBounds_toArray, List.set_cons_zero, List.set_cons_succ, i64_w, i32_w]
                  rfl
                refine pure_ (i := 21) (N := some 52) (v := undef) (a' := ?_) #[true, true, true, true, true, true, true, true, true, true, true, true, true, true, true, true, true, true, true, true, true, true, false, false, false, false, false, false, false, false, false, false] rfl rfl (any_of HT_.out (by kernel_rfl)) (fun _ _ _ h => h) (Or.inr ⟨by rfl, rfl⟩) ?_ ?_
                rotate_left
                · simp only [Act.put, List.setIfInBounds_toArray, List.set_cons_zero, List.set_cons_succ, i64_w, i32_w]
                  rfl
                refine pure_ (i := 22) (N := some 53) (v := undef) (a' := ?_) #[true, true, true, true, true, true, true, true, true, true, true, true, true, true, true, true, true, true, true, true, true, true, true, false, false, false, false, false, false, false, false, false] rfl rfl (any_of HT_.out (by kernel_rfl)) (fun _ _ _ h => h) (Or.inr ⟨by rfl, rfl⟩) ?_ ?_
                rotate_left
                · simp only [Act.put, List.setIfInBounds_toArray, List.set_cons_zero, List.set_cons_succ, i64_w, i32_w]
                  rfl
                refine pure_ (i := 23) (N := some 54) (v := undef) (a' := ?_) #[true, true, true, true, true, true, true, true, true, true, true, true, true, true, true, true, true, true, true, true, true, true, true, true, false, false, false, false, false, false, false, false] rfl rfl (any_of HT_.out (by kernel_rfl)) (fun _ _ _ h => h) (Or.inr ⟨by rfl, rfl⟩) ?_ ?_
                rotate_left
                · simp only [Act.put, List.setIfInBounds_toArray, List.set_cons_zero, List.set_cons_succ, i64_w, i32_w]
                  rfl
                refine pure_ (i := 24) (N := some 55) (v := undef) (a' := ?_) #[true, true, true, true, true, true, true, true, true, true, true, true, true, true, true, true, true, true, true, true, true, true, true, true, true, false, false, false, false, false, false, false] rfl rfl (any_of HT_.out (by kernel_rfl)) (fun _ _ _ h => h) (Or.inr ⟨by rfl, rfl⟩) ?_ ?_
                rotate_left
                · simp only [Act.put, List.setIfInBounds_toArray, List.set_cons_zero, List.set_cons_succ, i64_w, i32_w]
                  rfl
                refine pure_ (i := 25) (N := some 56) (v := undef) (a' := ?_) #[true, true, true, true, true, true, true, true, true, true, true, true, true, true, true, true, true, true, true, true, true, true, true, true, true, true, false, false, false, false, false, false] rfl rfl (any_of HT_.out (by kernel_rfl)) (fun _ _ _ h => h) (Or.inr ⟨by rfl, rfl⟩) ?_ ?_
                rotate_left
                · simp only [Act.put, List.setIfInBounds_toArray, List.set_cons_zero, List.set_cons_succ, i64_w, i32_w]
                  rfl
                refine pure_ (i := 26) (N := some 57) (v := undef) (a' := ?_) #[true, true, true, true, true, true, true, true, true, true, true, true, true, true, true, true, true, true, true, true, true, true, true, true, true, true, true, false, false, false, false, false] rfl rfl (any_of HT_.out (by kernel_rfl)) (fun _ _ _ h => h) (Or.inr ⟨by rfl, rfl⟩) ?_ ?_
                rotate_left
                · simp only [Act.put, List.setIfInBounds_toArray, List.set_cons_zero, List.set_cons_succ, i64_w, i32_w]
                  rfl
                refine pure_ (i := 27) (N := some 58) (v := undef) (a' := ?_) #[true, true, true, true, true, true, true, true, true, true, true, true, true, true, true, true, true, true, true, true, true, true, true, true, true, true, true, true, false, false, false, false] rfl rfl (any_of HT_.out (by kernel_rfl)) (fun _ _ _ h => h) (Or.inr ⟨by rfl, rfl⟩) ?_ ?_
                rotate_left
                · simp only [Act.put, List.setIfInBounds_toArray, List.set_cons_zero, List.set_cons_succ, i64_w, i32_w]
                  rfl
                refine pure_ (i := 28) (N := some 59) (v := undef) (a' := ?_) #[true, true, true, true, true, true, true, true, true, true, true, true, true, true, true, true, true, true, true, true, true, true, true, true, true, true, true, true, true, false, false, false] rfl rfl (any_of HT_.out (by kernel_rfl)) (fun _ _ _ h => h) (Or.inr ⟨by rfl, rfl⟩) ?_ ?_
                rotate_left
                · simp only [Act.put, List.setIfInBounds_toArray, List.set_cons_zero, List.set_cons_succ, i64_w, i32_w]
                  rfl
                refine pure_ (i := 29) (N := some 60) (v := undef) (a' := ?_) #[true, true, true, true, true, true, true, true, true, true, true, true, true, true, true, true, true, true, true, true, true, true, true, true, true, true, true, true, true, true, false, false] rfl rfl (any_of HT_.out (by kernel_rfl)) (fun _ _ _ h => h) (Or.inr ⟨by rfl, rfl⟩) ?_ ?_
                rotate_left
                · simp only [Act.put, List.setIfInBounds_toArray, List.set_cons_zero, List.set_cons_succ, i64_w, i32_w]
                  rfl
                refine pure_ (i := 30) (N := some 61) (v := undef) (a' := ?_) #[true, true, true, true, true, true, true, true, true, true, true, true, true, true, true, true, true, true, true, true, true, true, true, true, true, true, true, true, true, true, true, false] rfl rfl (any_of HT_.out (by kernel_rfl)) (fun _ _ _ h => h) (Or.inr ⟨by rfl, rfl⟩) ?_ ?_
                rotate_left
                · simp only [Act.put, List.setIfInBounds_toArray, List.set_cons_zero, List.set_cons_succ, i64_w, i32_w]
                  rfl
                refine pure_ (i := 31) (N := some 62) (v := ?_) (a' := ?_) #[true, true, true, true, true, true, true, true, true, true, true, true, true, true, true, true, true, true, true, true, true, true, true, true, true, true, true, true, true, true, true, true] rfl rfl (any_of HT_.out (by kernel_rfl)) (fun _ _ _ h => h) (Or.inl ⟨by rfl, ?_⟩) ?_ ?_
                rotate_left
                · intro w'
                  go_simp
                  with_reducible rfl
                rotate_left
                · simp only [Act.put, List.setIfInBounds_toArray, List.set_cons_zero, List.set_cons_succ, i64_w, i32_w]
                  rfl
                refine done_ (done_of HT_.out (by kernel_rfl)) ?_
                try go_wp2
                go_ret
                exact ⟨by first | rfl | (simp [errW_none, errW_some] <;> rfl) | (simp [*, errW_none, errW_some] <;> rfl), by repeat (first | (with_reducible first | exact HB.out | apply below_alloc | apply pw_below_drewN | apply below_drew1 | refine below_set ?_ GE220.out | refine below_set ?_ GE227.out) | exact HB.out)⟩
              · rw [if_neg c25] at H
                have c25b0 : decide ((wrap64 (((rd_T31 t217 x19_1).f3) + t213)) ≤ t228) = false := decide_eq_false c25
                clear c25
                by_cases c34 : 0 ≤ ((rd_T31 t217 x19_1).f2)
                · rw [if_pos c34] at H
                  have c34b0 : decide (0 ≤ ((rd_T31 t217 x19_1).f2)) = true := decide_eq_true c34
                  clear c34
                  by_cases c35 : ((rd_T31 t217 x19_1).f2) < (t221.length : Int)
                  · rw [if_pos c35] at H
                    have c35b0 : decide (((rd_T31 t217 x19_1).f2) < (t221.length : Int)) = true := decide_eq_true c35
                    clear c35
                    by_cases c36 : 0 ≤ ((rd_T31 t217 x19_1).f1)
                    · rw [if_pos c36] at H
                      have c36b0 : decide (0 ≤ ((rd_T31 t217 x19_1).f1)) = true := decide_eq_true c36
                      clear c36
                      by_cases c37 : ((rd_T31 t217 x19_1).f1) < (t221.length : Int)
                      · rw [if_pos c37] at H
                        have c37b0 : decide (((rd_T31 t217 x19_1).f1) < (t221.length : Int)) = true := decide_eq_true c37
                        clear c37
                        replace H := Option.bind_eq_some_iff.mp H
                        obtain ⟨t231, A380, H⟩ := H
                        replace H : (if t231 = 0 then (if x7_1 = true then (railplanlaw11_NetworkDurations.l0 k1 t221 (decide (t228 ≤ ((rd_T31 t217 x19_1).f4))) (t217.length : Int) (wrap64 (x19_1 + 1)) t213 t214 t217) else (railplanlaw11_NetworkDurations.l0 k1 t221 false (t217.length : Int) (wrap64 (x19_1 + 1)) t213 t214 t217)) else (some false)) = some r := H
                        have A38 := Aside0.mk A380
                        clear A380
                        by_cases c39 : t231 = 0
                        · rw [if_pos c39] at H
                          have c39b0 : (t231 == 0) = true := beq_iff_eq.mpr c39
                          have c39b1 : (t231 != 0) = false := bne_eq_false_iff_eq.mpr c39
                          clear c39
                          by_cases c40 : x7_1 = true
                          · subst c40
                            have H1 : (railplanlaw11_NetworkDurations.l0 k1 t221 (decide (t228 ≤ ((rd_T31 t217 x19_1).f4))) (t217.length : Int) (wrap64 (x19_1 + 1)) t213 t214 t217) = some r := by rw [if_pos rfl] at H; exact H
                            clear H
                            have H := H1
                            clear H1
                            have H' := Aside0.mk H
                            clear H
                            have hcz41_0 : wr.cell? ⟨gb220, 0, none⟩ = some (.int .i64 t213) := (blk_cell BK220.out 0).trans rfl
                            have hcz41_1 : wr.cell? ⟨gb220, 1, none⟩ = some (.slice Ao8 t214.length co8) := (blk_cell BK220.out 1).trans rfl
                            have hcz41_2 : wr.cell? ⟨gb220, 2, none⟩ = some (.slice Ao9 t217.length co9) := (blk_cell BK220.out 2).trans rfl
                            have hfz41_0 := blk_frozen BK220.out 0
                            have hfz41_1 := blk_frozen BK220.out 1
                            have hfz41_2 := blk_frozen BK220.out 2
                            have p226 : 0 ≤ (x19_1 : Int) := of_decide_eq_true (by first | (with_reducible assumption) | assumption)
                            have q226 : x19_1 < (t217.length : Int) := of_decide_eq_true (by first | (with_reducible assumption) | assumption)
                            obtain ⟨ad226, e226, hx226_0, hx226_1, hx226_2, hx226_3, hx226_4, hx226_5⟩ := at_T31 (Kd.R_reads' HO_221002.out).2.2 x19_1 p226 q226
                            cases e226
                            replace p226 := eq_true p226
                            replace q226 := eq_true q226
                            try go_wp2_with (first | ((with_reducible refine gate_dst (N := 9) rfl ?_); refine box_event ?hg (N := 9) ?hd (cs := #[.int .i64 0, .int .i64 0, .int .i64 0, .int .i64 0, .int .i64 0, .int .i64 0]) (t := 31) ?hr ?_; (case hd => rfl); (case hg => rfl); (case hr => first | (go_simp; done) | (go_simp; rfl)); intro gb227 hg w42 hbox hb; have n0_ := Aside0.mk (Kd.R_below (by (with_reducible repeat (first | apply Kd.R_alloc | apply Kd.R_drewN | apply Kd.R_drew)); exact HO_6.out) hb); have n1_ := Aside0.mk (Kd.R_below (by (with_reducible repeat (first | apply Kd.R_alloc | apply Kd.R_drewN | apply Kd.R_drew)); exact HO_221001.out) hb); have n2_ := Aside0.mk (Kd.R_below (Kd.R_elderB (by (with_reducible repeat (first | apply Kd.R_alloc | apply Kd.R_drewN | apply Kd.R_drew)); exact HO_221002.out) gb227 (Nat.le_of_eq hg.symm)) hb); have n3_ := Aside0.mk (blk_below (g := gb220) (o := .cells #[.int .i64 t213, .slice Ao8 t214.length co8, .slice (some ad226) t217.length co9] 26 (0, 0)) (by (with_reducible repeat (first | refine blk_drewN ?_ _ | refine blk_drew ?_ | refine blk_alloc ?_ _)); exact BK220.out) hb); have n4_ := Aside0.mk (below_step (by repeat (first | (with_reducible first | exact HB.out | apply below_alloc | apply pw_below_drewN | apply below_drew1 | refine below_set ?_ GE220.out) | exact HB.out)) hb); have n5_ := Aside0.mk (hbox); have n6_ := Aside0.mk ((by rw [hg]; exact (below_size (by repeat (first | (with_reducible first | exact HB.out | apply below_alloc | apply pw_below_drewN | apply below_drew1 | refine below_set ?_ GE220.out) | exact HB.out))) : w.heap.size ≤ gb227)); have n7_ := Aside0.mk ((by rw [hg]; exact (below_size (by repeat (first | (with_reducible first | exact HB.out | apply below_alloc | apply pw_below_drewN | apply below_drew1 | refine below_set ?_ GE220.out) | exact HB.out))) : w.heap.size ≤ gb227)); have n8_ := Aside0.mk ((by rw [hg]; exact Nat.ne_of_lt (blk_lt (g := gb220) (o := .cells #[.int .i64 t213, .slice Ao8 t214.length co8, .slice (some ad226) t217.length co9] 26 (0, 0)) (by (with_reducible repeat (first | refine blk_drewN ?_ _ | refine blk_drew ?_ | refine blk_alloc ?_ _)); exact BK220.out)) : gb220 ≠ gb227)); have n9_ := Aside0.mk ((by rw [hg]; exact Nat.ne_of_gt (blk_lt (g := gb220) (o := .cells #[.int .i64 t213, .slice Ao8 t214.length co8, .slice (some ad226) t217.length co9] 26 (0, 0)) (by (with_reducible repeat (first | refine blk_drewN ?_ _ | refine blk_drew ?_ | refine blk_alloc ?_ _)); exact BK220.out)) : gb227 ≠ gb220)); clear HO_6; clear HO_221001; clear HO_221002; clear BK220; clear HB; have HO_6 := n0_; have HO_221001 := n1_; have HO_221002 := n2_; have BK220 := n3_; have HB := n4_; have BK227 := n5_; have GW227 := n6_; have GE227 := n7_; have NB220_227 := n8_; have NB227_220 := n9_; clear n0_ n1_ n2_ n3_ n4_ n5_ n6_ n7_ n8_ n9_; clear hb hbox hg; have hnb43 := NB227_220.out; have hnc43 := NB220_227.out; have hcz44_0 : w42.cell? ⟨gb227, 0, none⟩ = some (.int .i64 0) := (blk_cell BK227.out 0).trans rfl; have hcz44_1 : w42.cell? ⟨gb227, 1, none⟩ = some (.int .i64 0) := (blk_cell BK227.out 1).trans rfl; have hcz44_2 : w42.cell? ⟨gb227, 2, none⟩ = some (.int .i64 0) := (blk_cell BK227.out 2).trans rfl; have hcz44_3 : w42.cell? ⟨gb227, 3, none⟩ = some (.int .i64 0) := (blk_cell BK227.out 3).trans rfl; have hcz44_4 : w42.cell? ⟨gb227, 4, none⟩ = some (.int .i64 0) := (blk_cell BK227.out 4).trans rfl; have hcz44_5 : w42.cell? ⟨gb227, 5, none⟩ = some (.int .i64 0) := (blk_cell BK227.out 5).trans rfl; have hfz44_0 := blk_frozen BK227.out 0; have hfz44_1 := blk_frozen BK227.out 1; have hfz44_2 := blk_frozen BK227.out 2; have hfz44_3 := blk_frozen BK227.out 3; have hfz44_4 := blk_frozen BK227.out 4; have hfz44_5 := blk_frozen BK227.out 5; have hcz45_0 : w42.cell? ⟨gb220, 0, none⟩ = some (.int .i64 t213) := (blk_cell BK220.out 0).trans rfl; have hcz45_1 : w42.cell? ⟨gb220, 1, none⟩ = some (.slice Ao8 t214.length co8) := (blk_cell BK220.out 1).trans rfl; have hcz45_2 : w42.cell? ⟨gb220, 2, none⟩ = some (.slice (some ad226) t217.length co9) := (blk_cell BK220.out 2).trans rfl; have hfz45_0 := blk_frozen BK220.out 0; have hfz45_1 := blk_frozen BK220.out 1; have hfz45_2 := blk_frozen BK220.out 2; obtain ⟨Ao46, co46, eo46⟩ := Kd.R_slice HO_6.out; subst eo46) | ((with_reducible refine gate_callee (f := 15) rfl ?_); refine goesL_ (some 30) rfl rfl Try.func15 (by kernel_rfl) rfl #[.agg #[.int .i64 t213, .slice Ao8 t214.length co8, .slice (some ad226) t217.length co9], .slice Ao46 t221.length co46, .int .i64 x19_1] rfl (by (try simp only [List.map_toArray, List.map_cons, List.map_nil]); first | done | rfl | (simp only [List.length_drop, List.length_take]; rfl)) ?_; (with_reducible refine (network_Duration.calls t213 _ _ t214 _ _ t217 _ _ t221 x19_1 t228 _ ?side1 ?side2 ?side3 ?side4 ?side5 ?side6 A15.out).mono ?_); (case side1 => refine (Kd.R_reads' (e := 46) (base := w.heap.size) (ok := fun k_ => True) (n := t214.length) (c := co8) ?_).2.2; exact (by (with_reducible repeat (first | apply Kd.R_alloc | apply Kd.R_drewN | apply Kd.R_drew)); exact (Kd.R_mono (Kd.R_far (p := ⟨gb227, 5, none⟩) (Kd.R_far (p := ⟨gb227, 4, none⟩) (Kd.R_far (p := ⟨gb227, 3, none⟩) (Kd.R_far (p := ⟨gb227, 2, none⟩) (Kd.R_far (p := ⟨gb227, 1, none⟩) (Kd.R_far (p := ⟨gb227, 0, none⟩) (Kd.R_types HO_221001.out BK227.out (by decide)) (fun _ hk => hk.2) (.int .i64 ((rd_T31 t217 x19_1).f0))) (fun _ hk => hk.2) (.int .i64 ((rd_T31 t217 x19_1).f1))) (fun _ hk => hk.2) (.int .i64 ((rd_T31 t217 x19_1).f2))) (fun _ hk => hk.2) (.int .i64 ((rd_T31 t217 x19_1).f3))) (fun _ hk => hk.2) (.int .i64 ((rd_T31 t217 x19_1).f4))) (fun _ hk => hk.2) (.int .i64 ((rd_T31 t217 x19_1).f5))) (fun _ h_ => h_.1)))); (case side2 => exact (Kd.R_reads' HO_221001.out).2.1); (case side3 => refine (Kd.R_reads' (e := 31) (base := w.heap.size) (ok := fun k_ => (True ∧ k_ ≠ gb227)) (n := t217.length) (c := co9) ?_).2.2; exact (by (with_reducible repeat (first | apply Kd.R_alloc | apply Kd.R_drewN | apply Kd.R_drew)); exact (Kd.R_mono (Kd.R_far (p := ⟨gb227, 5, none⟩) (Kd.R_far (p := ⟨gb227, 4, none⟩) (Kd.R_far (p := ⟨gb227, 3, none⟩) (Kd.R_far (p := ⟨gb227, 2, none⟩) (Kd.R_far (p := ⟨gb227, 1, none⟩) (Kd.R_far (p := ⟨gb227, 0, none⟩) (Kd.R_mono HO_221002.out (fun k_ hk => (⟨hk, hk.2⟩ : _ ∧ k_ ≠ gb227))) (fun _ hk => hk.2) (.int .i64 ((rd_T31 t217 x19_1).f0))) (fun _ hk => hk.2) (.int .i64 ((rd_T31 t217 x19_1).f1))) (fun _ hk => hk.2) (.int .i64 ((rd_T31 t217 x19_1).f2))) (fun _ hk => hk.2) (.int .i64 ((rd_T31 t217 x19_1).f3))) (fun _ hk => hk.2) (.int .i64 ((rd_T31 t217 x19_1).f4))) (fun _ hk => hk.2) (.int .i64 ((rd_T31 t217 x19_1).f5))) (fun _ h_ => h_.1)))); (case side4 => exact (Kd.R_reads' HO_221002.out).2.1); (case side5 => refine (Kd.R_reads' (e := 3) (base := w.heap.size) (ok := fun k_ => True) (n := t221.length) (c := co46) ?_).2.2; exact (by (with_reducible repeat (first | apply Kd.R_alloc | apply Kd.R_drewN | apply Kd.R_drew)); exact (Kd.R_mono (Kd.R_far (p := ⟨gb227, 5, none⟩) (Kd.R_far (p := ⟨gb227, 4, none⟩) (Kd.R_far (p := ⟨gb227, 3, none⟩) (Kd.R_far (p := ⟨gb227, 2, none⟩) (Kd.R_far (p := ⟨gb227, 1, none⟩) (Kd.R_far (p := ⟨gb227, 0, none⟩) (Kd.R_types HO_6.out BK227.out (by decide)) (fun _ hk => hk.2) (.int .i64 ((rd_T31 t217 x19_1).f0))) (fun _ hk => hk.2) (.int .i64 ((rd_T31 t217 x19_1).f1))) (fun _ hk => hk.2) (.int .i64 ((rd_T31 t217 x19_1).f2))) (fun _ hk => hk.2) (.int .i64 ((rd_T31 t217 x19_1).f3))) (fun _ hk => hk.2) (.int .i64 ((rd_T31 t217 x19_1).f4))) (fun _ hk => hk.2) (.int .i64 ((rd_T31 t217 x19_1).f5))) (fun _ h_ => h_.1)))); (case side6 => exact (Kd.R_reads' HO_6.out).2.1); rintro e w47 ⟨rfl, hb⟩; refine ⟨_, rfl, ?_⟩; have n0_ := Aside0.mk (Kd.R_below (by (with_reducible repeat (first | apply Kd.R_alloc | apply Kd.R_drewN | apply Kd.R_drew)); exact (Kd.R_mono (Kd.R_far (p := ⟨gb227, 5, none⟩) (Kd.R_far (p := ⟨gb227, 4, none⟩) (Kd.R_far (p := ⟨gb227, 3, none⟩) (Kd.R_far (p := ⟨gb227, 2, none⟩) (Kd.R_far (p := ⟨gb227, 1, none⟩) (Kd.R_far (p := ⟨gb227, 0, none⟩) (Kd.R_types HO_6.out BK227.out (by decide)) (fun _ hk => hk.2) (.int .i64 ((rd_T31 t217 x19_1).f0))) (fun _ hk => hk.2) (.int .i64 ((rd_T31 t217 x19_1).f1))) (fun _ hk => hk.2) (.int .i64 ((rd_T31 t217 x19_1).f2))) (fun _ hk => hk.2) (.int .i64 ((rd_T31 t217 x19_1).f3))) (fun _ hk => hk.2) (.int .i64 ((rd_T31 t217 x19_1).f4))) (fun _ hk => hk.2) (.int .i64 ((rd_T31 t217 x19_1).f5))) (fun _ h_ => h_.1))) hb); have n1_ := Aside0.mk (Kd.R_below (by (with_reducible repeat (first | apply Kd.R_alloc | apply Kd.R_drewN | apply Kd.R_drew)); exact (Kd.R_mono (Kd.R_far (p := ⟨gb227, 5, none⟩) (Kd.R_far (p := ⟨gb227, 4, none⟩) (Kd.R_far (p := ⟨gb227, 3, none⟩) (Kd.R_far (p := ⟨gb227, 2, none⟩) (Kd.R_far (p := ⟨gb227, 1, none⟩) (Kd.R_far (p := ⟨gb227, 0, none⟩) (Kd.R_types HO_221001.out BK227.out (by decide)) (fun _ hk => hk.2) (.int .i64 ((rd_T31 t217 x19_1).f0))) (fun _ hk => hk.2) (.int .i64 ((rd_T31 t217 x19_1).f1))) (fun _ hk => hk.2) (.int .i64 ((rd_T31 t217 x19_1).f2))) (fun _ hk => hk.2) (.int .i64 ((rd_T31 t217 x19_1).f3))) (fun _ hk => hk.2) (.int .i64 ((rd_T31 t217 x19_1).f4))) (fun _ hk => hk.2) (.int .i64 ((rd_T31 t217 x19_1).f5))) (fun _ h_ => h_.1))) hb); have n2_ := Aside0.mk (Kd.R_below (by (with_reducible repeat (first | apply Kd.R_alloc | apply Kd.R_drewN | apply Kd.R_drew)); exact (Kd.R_mono (Kd.R_far (p := ⟨gb227, 5, none⟩) (Kd.R_far (p := ⟨gb227, 4, none⟩) (Kd.R_far (p := ⟨gb227, 3, none⟩) (Kd.R_far (p := ⟨gb227, 2, none⟩) (Kd.R_far (p := ⟨gb227, 1, none⟩) (Kd.R_far (p := ⟨gb227, 0, none⟩) (Kd.R_mono HO_221002.out (fun k_ hk => (⟨hk, hk.2⟩ : _ ∧ k_ ≠ gb227))) (fun _ hk => hk.2) (.int .i64 ((rd_T31 t217 x19_1).f0))) (fun _ hk => hk.2) (.int .i64 ((rd_T31 t217 x19_1).f1))) (fun _ hk => hk.2) (.int .i64 ((rd_T31 t217 x19_1).f2))) (fun _ hk => hk.2) (.int .i64 ((rd_T31 t217 x19_1).f3))) (fun _ hk => hk.2) (.int .i64 ((rd_T31 t217 x19_1).f4))) (fun _ hk => hk.2) (.int .i64 ((rd_T31 t217 x19_1).f5))) (fun _ h_ => h_.1))) hb); have n3_ := Aside0.mk (blk_below (g := gb220) (o := .cells #[.int .i64 t213, .slice Ao8 t214.length co8, .slice (some ad226) t217.length co9] 26 (0, 0)) (by (with_reducible repeat (first | refine blk_drewN ?_ _ | refine blk_drew ?_ | refine blk_alloc ?_ _)); refine blk_far ?_ NB220_227.out _; (with_reducible repeat (first | refine blk_drewN ?_ _ | refine blk_drew ?_ | refine blk_alloc ?_ _)); refine blk_far ?_ NB220_227.out _; (with_reducible repeat (first | refine blk_drewN ?_ _ | refine blk_drew ?_ | refine blk_alloc ?_ _)); refine blk_far ?_ NB220_227.out _; (with_reducible repeat (first | refine blk_drewN ?_ _ | refine blk_drew ?_ | refine blk_alloc ?_ _)); refine blk_far ?_ NB220_227.out _; (with_reducible repeat (first | refine blk_drewN ?_ _ | refine blk_drew ?_ | refine blk_alloc ?_ _)); refine blk_far ?_ NB220_227.out _; (with_reducible repeat (first | refine blk_drewN ?_ _ | refine blk_drew ?_ | refine blk_alloc ?_ _)); refine blk_far ?_ NB220_227.out _; (with_reducible repeat (first | refine blk_drewN ?_ _ | refine blk_drew ?_ | refine blk_alloc ?_ _)); exact BK220.out) hb); have n4_ := Aside0.mk (blk_below (g := gb227) (o := .cells #[.int .i64 ((rd_T31 t217 x19_1).f0), .int .i64 ((rd_T31 t217 x19_1).f1), .int .i64 ((rd_T31 t217 x19_1).f2), .int .i64 ((rd_T31 t217 x19_1).f3), .int .i64 ((rd_T31 t217 x19_1).f4), .int .i64 ((rd_T31 t217 x19_1).f5)] 31 (0, 0)) (by (with_reducible repeat (first | refine blk_drewN ?_ _ | refine blk_drew ?_ | refine blk_alloc ?_ _)); refine blk_put (cs := #[.int .i64 ((rd_T31 t217 x19_1).f0), .int .i64 ((rd_T31 t217 x19_1).f1), .int .i64 ((rd_T31 t217 x19_1).f2), .int .i64 ((rd_T31 t217 x19_1).f3), .int .i64 ((rd_T31 t217 x19_1).f4), .int .i64 0]) ?_ 5 _ rfl; (with_reducible repeat (first | refine blk_drewN ?_ _ | refine blk_drew ?_ | refine blk_alloc ?_ _)); refine blk_put (cs := #[.int .i64 ((rd_T31 t217 x19_1).f0), .int .i64 ((rd_T31 t217 x19_1).f1), .int .i64 ((rd_T31 t217 x19_1).f2), .int .i64 ((rd_T31 t217 x19_1).f3), .int .i64 0, .int .i64 0]) ?_ 4 _ rfl; (with_reducible repeat (first | refine blk_drewN ?_ _ | refine blk_drew ?_ | refine blk_alloc ?_ _)); refine blk_put (cs := #[.int .i64 ((rd_T31 t217 x19_1).f0), .int .i64 ((rd_T31 t217 x19_1).f1), .int .i64 ((rd_T31 t217 x19_1).f2), .int .i64 0, .int .i64 0, .int .i64 0]) ?_ 3 _ rfl; (with_reducible repeat (first | refine blk_drewN ?_ _ | refine blk_drew ?_ | refine blk_alloc ?_ _)); refine blk_put (cs := #[.int .i64 ((rd_T31 t217 x19_1).f0), .int .i64 ((rd_T31 t217 x19_1).f1), .int .i64 0, .int .i64 0, .int .i64 0, .int .i64 0]) ?_ 2 _ rfl; (with_reducible repeat (first | refine blk_drewN ?_ _ | refine blk_drew ?_ | refine blk_alloc ?_ _)); refine blk_put (cs := #[.int .i64 ((rd_T31 t217 x19_1).f0), .int .i64 0, .int .i64 0, .int .i64 0, .int .i64 0, .int .i64 0]) ?_ 1 _ rfl; (with_reducible repeat (first | refine blk_drewN ?_ _ | refine blk_drew ?_ | refine blk_alloc ?_ _)); refine blk_put (cs := #[.int .i64 0, .int .i64 0, .int .i64 0, .int .i64 0, .int .i64 0, .int .i64 0]) ?_ 0 _ rfl; (with_reducible repeat (first | refine blk_drewN ?_ _ | refine blk_drew ?_ | refine blk_alloc ?_ _)); exact BK227.out) hb); have n5_ := Aside0.mk (below_step (by repeat (first | (with_reducible first | exact HB.out | apply below_alloc | apply pw_below_drewN | apply below_drew1 | refine below_set ?_ GE220.out | refine below_set ?_ GE227.out) | exact HB.out)) hb); clear HO_6; clear HO_221001; clear HO_221002; clear BK220; clear BK227; clear HB; have HO_6 := n0_; have HO_221001 := n1_; have HO_221002 := n2_; have BK220 := n3_; have BK227 := n4_; have HB := n5_; clear n0_ n1_ n2_ n3_ n4_ n5_; (try clear hb); (try clear hb2); (try clear hk); (try clear hi)))
                            have n0_ := Aside0.mk (Kd.R_drew HO_6.out)
                            have n1_ := Aside0.mk (Kd.R_drew HO_221001.out)
                            have n2_ := Aside0.mk (Kd.R_drew HO_221002.out)
                            have n3_ := Aside0.mk (blk_drew BK220.out)
                            have n4_ := Aside0.mk (blk_drew BK227.out)
                            have n5_ := Aside0.mk (below_drew1 HB.out)
                            clear HO_6
                            clear HO_221001
                            clear HO_221002
                            clear BK220
                            clear BK227
                            clear HB
                            have HO_6 := n0_
                            have HO_221001 := n1_
                            have HO_221002 := n2_
                            have BK220 := n3_
                            have BK227 := n4_
                            have HB := n5_
                            clear n0_ n1_ n2_ n3_ n4_ n5_
                            have p229 : 0 ≤ (((rd_T31 t217 x19_1).f2) : Int) := of_decide_eq_true (by first | (with_reducible assumption) | assumption)
                            have q229 : ((rd_T31 t217 x19_1).f2) < (t221.length : Int) := of_decide_eq_true (by first | (with_reducible assumption) | assumption)
                            obtain ⟨ad229, e229, hx229_0⟩ := Kd.at_int (Kd.R_reads' HO_6.out).2.2 ((rd_T31 t217 x19_1).f2) p229 q229
                            cases e229
                            replace p229 := eq_true p229
                            replace q229 := eq_true q229
                            have p230 : 0 ≤ (((rd_T31 t217 x19_1).f1) : Int) := of_decide_eq_true (by first | (with_reducible assumption) | assumption)
                            have q230 : ((rd_T31 t217 x19_1).f1) < (t221.length : Int) := of_decide_eq_true (by first | (with_reducible assumption) | assumption)
                            obtain ⟨ad230, e230, hx230_0⟩ := Kd.at_int (Kd.R_reads' HO_6.out).2.2 ((rd_T31 t217 x19_1).f1) p230 q230
                            obtain rfl : ad229 = ad230 := (by injection e230)
                            replace p230 := eq_true p230
                            replace q230 := eq_true q230
                            refine start_ (n := 32) (S := fun w' => w'.cell? ⟨gb227, 0, none⟩ = some (.int .i64 ((rd_T31 t217 x19_1).f0)) ∧ w'.cell? ⟨gb227, 1, none⟩ = some (.int .i64 ((rd_T31 t217 x19_1).f1)) ∧ w'.cell? ⟨gb227, 2, none⟩ = some (.int .i64 ((rd_T31 t217 x19_1).f2)) ∧ w'.cell? ⟨gb227, 3, none⟩ = some (.int .i64 ((rd_T31 t217 x19_1).f3)) ∧ w'.cell? ⟨gb227, 4, none⟩ = some (.int .i64 ((rd_T31 t217 x19_1).f4)) ∧ w'.cell? ⟨gb227, 5, none⟩ = some (.int .i64 ((rd_T31 t217 x19_1).f5)) ∧ w'.cell? ⟨gb220, 0, none⟩ = some (.int .i64 t213) ∧ w'.cell? ⟨gb220, 1, none⟩ = some (.slice Ao8 t214.length co8) ∧ w'.cell? ⟨gb220, 2, none⟩ = some (.slice (some ad226) t217.length co9) ∧ w'.cell? (ad229.add (((rd_T31 t217 x19_1).f2)).toNat) = some (.int .i64 (rd t221 ((rd_T31 t217 x19_1).f2))) ∧ w'.cell? (ad229.add (((rd_T31 t217 x19_1).f1)).toNat) = some (.int .i64 (rd t221 ((rd_T31 t217 x19_1).f1)))) (ds := []) #[false, false, false, false, false, false, false, false, false, false, false, false, false, false, false, false, false, false, false, false, false, false, false, false, false, false, false, false, false, false, false, false] (by kernel_rfl) rfl rfl ⟨(blk_cell BK227.out 0).trans rfl, (blk_cell BK227.out 1).trans rfl, (blk_cell BK227.out 2).trans rfl, (blk_cell BK227.out 3).trans rfl, (blk_cell BK227.out 4).trans rfl, (blk_cell BK227.out 5).trans rfl, (blk_cell BK220.out 0).trans rfl, (blk_cell BK220.out 1).trans rfl, (blk_cell BK220.out 2).trans rfl, hx229_0, hx230_0⟩ (fun hHeld => ?_); refine with_tabW railplanlaw11_NetworkDurations.tab9 railplanlaw11_NetworkDurations.bits9 (fun HT_ HW_ => ?_)
                            generalize w47.drew = w48 at HO_6 HO_221001 HO_221002 BK220 BK227 HB hx229_0 hx230_0 hHeld ⊢
                            refine pure_ (i := 0) (N := some 31) (v := ?_) (a' := ?_) #[true, false, false, false, false, false, false, false, false, false, false, false, false, false, false, false, false, false, false, false, false, false, false, false, false, false, false, false, false, false, false, false] rfl rfl (any_of HT_.out (by kernel_rfl)) (fun _ _ _ h => h) (Or.inl ⟨by rfl, ?_⟩) ?_ ?_
                            rotate_left
                            · intro w'
                              go_simp
                              with_reducible rfl
                            rotate_left
                            · simp only [Act.put, List.setIfInBounds_toArray, List.set_cons_zero, List.set_cons_succ, i64_w, i32_w]
                              rfl
                            refine pure_ (i := 1) (N := some 32) (v := ?_) (a' := ?_) #[true, true, false, false, false, false, false, false, false, false, false, false, false, false, false, false, false, false, false, false, false, false, false, false, false, false, false, false, false, false, false, false] rfl rfl (any_of HT_.out (by kernel_rfl)) (fun _ _ _ h => h) (Or.inl ⟨by rfl, ?_⟩) ?_ ?_
                            rotate_left
                            · intro w'
                              go_simp
                              with_reducible rfl
                            rotate_left
                            · simp only [Act.put, List.setIfInBounds_toArray, List.set_cons_zero, List.set_cons_succ, i64_w, i32_w]
                              rfl
                            refine take_ (i := 2) (N := some 33) (v := ?_) (a' := ?_) #[true, true, true, false, false, false, false, false, false, false, false, false, false, false, false, false, false, false, false, false, false, false, false, false, false, false, false, false, false, false, false, false] rfl rfl (take_ofW HT_.out HW_.out (by kernel_rfl)) (fun _ _ _ h => h) (Or.inl ⟨by rfl, ?_⟩) hHeld ?_ ?_
                            rotate_left
                            · rintro w' ⟨s0, s1, s2, s3, s4, s5, s6, s7, s8, s9, s10⟩
                              go_simp
                              with_reducible rfl
                            rotate_left
                            · simp only [Act.put, List.setIfInBounds_toArray, List.set_cons_zero, List.set_cons_succ, i64_w, i32_w]
                              rfl
                            refine pure_ (i := 3) (N := some 34) (v := ?_) (a' := ?_) #[true, true, true, true, false, false, false, false, false, false, false, false, false, false, false, false, false, false, false, false, false, false, false, false, false, false, false, false, false, false, false, false] rfl rfl (any_of HT_.out (by kernel_rfl)) (fun _ _ _ h => h) (Or.inl ⟨by rfl, ?_⟩) ?_ ?_
                            rotate_left
                            · intro w'
                              go_simp
                              with_reducible rfl
                            rotate_left
                            · simp only [Act.put, List.setIfInBounds_toArray, List.set_cons_zero, List.set_cons_succ, i64_w, i32_w]
                              rfl
                            refine pure_ (i := 4) (N := some 35) (v := ?_) (a' := ?_) #[true, true, true, true, true, false, false, false, false, false, false, false, false, false, false, false, false, false, false, false, false, false, false, false, false, false, false, false, false, false, false, false] rfl rfl (any_of HT_.out (by kernel_rfl)) (fun _ _ _ h => h) (Or.inl ⟨by rfl, ?_⟩) ?_ ?_
                            rotate_left
                            · intro w'
                              go_simp
                              with_reducible rfl
                            rotate_left
                            · simp only [Act.put, List.setIfInBounds_toArray, List.set_cons_zero, List.set_cons_succ, i64_w, i32_w]
                              rfl
                            refine pure_ (i := 5) (N := some 36) (v := ?_) (a' := ?_) #[true, true, true, true, true, true, false, false, false, false, false, false, false, false, false, false, false, false, false, false, false, false, false, false, false, false, false, false, false, false, false, false] rfl rfl (any_of HT_.out (by kernel_rfl)) (fun _ _ _ h => h) (Or.inl ⟨by rfl, ?_⟩) ?_ ?_
                            rotate_left
                            · intro w'
                              go_simp
                              with_reducible rfl
                            rotate_left
                            · simp only [Act.put, List.setIfInBounds_toArray, List.set_cons_zero, List.set_cons_succ, i64_w, i32_w]
                              rfl
                            refine pure_ (i := 6) (N := some 37) (v := ?_) (a' := ?_) #[true, true, true, true, true, true, true, false, false, false, false, false, false, false, false, false, false, false, false, false, false, false, false, false, false, false, false, false, false, false, false, false] rfl rfl (any_of HT_.out (by kernel_rfl)) (fun _ _ _ h => h) (Or.inl ⟨by rfl, ?_⟩) ?_ ?_
                            rotate_left
                            · intro w'
                              go_simp
                              with_reducible rfl
                            rotate_left
                            · simp only [Act.put, List.setIfInBounds_toArray, List.set_cons_zero, List.set_cons_succ, i64_w, i32_w]
                              rfl
                            refine pure_ (i := 8) (N := some 39) (v := ?_) (a' := ?_) #[true, true, true, true, true, true, true, false, true, false, false, false, false, false, false, false, false, false, false, false, false, false, false, false, false, false, false, false, false, false, false, false] rfl rfl (any_of HT_.out (by kernel_rfl)) (fun _ _ _ h => h) (Or.inl ⟨by rfl, ?_⟩) ?_ ?_
                            rotate_left
                            · intro w'
                              go_simp
                              with_reducible rfl
                            rotate_left
                            · simp only [Act.put, List.setIfInBounds_toArray, List.set_cons_zero, List.set_cons_succ, i64_w, i32_w]
                              rfl
                            refine take_ (i := 7) (N := some 38) (v := ?_) (a' := ?_) #[true, true, true, true, true, true, true, true, true, false, false, false, false, false, false, false, false, false, false, false, false, false, false, false, false, false, false, false, false, false, false, false] rfl rfl (take_ofW HT_.out HW_.out (by kernel_rfl)) (fun _ _ _ h => h) (Or.inl ⟨by rfl, ?_⟩) hHeld ?_ ?_
                            rotate_left
                            · rintro w' ⟨s0, s1, s2, s3, s4, s5, s6, s7, s8, s9, s10⟩
                              go_simp
                              with_reducible rfl
                            rotate_left
                            · simp only [Act.put, List.setIfInBounds_toArray, List.set_cons_zero, List.set_cons_succ, i64_w, i32_w]
                              rfl
                            refine take_ (i := 9) (N := some 40) (v := ?_) (a' := ?_) #[true, true, true, true, true, true, true, true, true, true, false, false, false, false, false, false, false, false, false, false, false, false, false, false, false, false, false, false, false, false, false, false] rfl rfl (take_ofW HT_.out HW_.out (by kernel_rfl)) (fun _ _ _ h => h) (Or.inl ⟨by rfl, ?_⟩) hHeld ?_ ?_
                            rotate_left
                            · rintro w' ⟨s0, s1, s2, s3, s4, s5, s6, s7, s8, s9, s10⟩
                              go_simp
                              with_reducible rfl
                            rotate_left
                            · simp only [Act.put, List.setIfInBounds_toArray, List.set_cons_zero, List.set_cons_succ, i64_w, i32_w]
                              rfl
                            refine pure_ (i := 10) (N := some 41) (v := ?_) (a' := ?_) #[true, true, true, true, true, true, true, true, true, true, true, false, false, false, false, false, false, false, false, false, false, false, false, false, false, false, false, false, false, false, false, false] rfl rfl (any_of HT_.out (by kernel_rfl)) (fun _ _ _ h => h) (Or.inl ⟨by rfl, ?_⟩) ?_ ?_
                            rotate_left
                            · intro w'
                              go_simp
                              with_reducible rfl
                            rotate_left
                            · simp only [Act.put, List.setIfInBounds_toArray, List.set_cons_zero, List.set_cons_succ, i64_w, i32_w]
                              rfl
                            refine pure_ (i := 11) (N := some 42) (v := ?_) (a' := ?_) #[true, true, true, true, true, true, true, true, true, true, true, true, false, false, false, false, false, false, false, false, false, false, false, false, false, false, false, false, false, false, false, false] rfl rfl (any_of HT_.out (by kernel_rfl)) (fun _ _ _ h => h) (Or.inl ⟨by rfl, ?_⟩) ?_ ?_
                            rotate_left
                            · intro w'
                              go_simp
                              with_reducible rfl
                            rotate_left
                            · simp only [Act.put, List.setIfInBounds_toArray, List.set_cons_zero, List.set_cons_succ, i64_w, i32_w]
                              rfl
                            refine pure_ (i := 12) (N := some 43) (v := ?_) (a' := ?_) #[true, true, true, true, true, true, true, true, true, true, true, true, true, false, false, false, false, false, false, false, false, false, false, false, false, false, false, false, false, false, false, false] rfl rfl (any_of HT_.out (by kernel_rfl)) (fun _ _ _ h => h) (Or.inl ⟨by rfl, ?_⟩) ?_ ?_
                            rotate_left
                            · intro w'
                              go_simp
                              with_reducible rfl
                            rotate_left
                            · simp only [Act.put, List.setIfInBounds_toArray, List.set_cons_zero, List.set_cons_succ, i64_w, i32_w]
                              rfl
                            refine pure_ (i := 13) (N := some 44) (v := ?_) (a' := ?_) #[true, true, true, true, true, true, true, true, true, true, true, true, true, true, false, false, false, false, false, false, false, false, false, false, false, false, false, false, false, false, false, false] rfl rfl (any_of HT_.out (by kernel_rfl)) (fun _ _ _ h => h) (Or.inl ⟨by rfl, ?_⟩) ?_ ?_
                            rotate_left
                            · intro w'
                              go_simp
                              with_reducible rfl
                            rotate_left
                            · simp only [Act.put, List.setIfInBounds_toArray, List.set_cons_zero, List.set_cons_succ, i64_w, i32_w]
                              rfl
                            refine pure_ (i := 14) (N := some 45) (v := ?_) (a' := ?_) #[true, true, true, true, true, true, true, true, true, true, true, true, true, true, true, false, false, false, false, false, false, false, false, false, false, false, false, false, false, false, false, false] rfl rfl (any_of HT_.out (by kernel_rfl)) (fun _ _ _ h => h) (Or.inl ⟨by rfl, ?_⟩) ?_ ?_
                            rotate_left
                            · intro w'
                              go_simp
                              with_reducible rfl
                            rotate_left
                            · simp only [Act.put, List.setIfInBounds_toArray, List.set_cons_zero, List.set_cons_succ, i64_w, i32_w]
                              rfl
                            refine pure_ (i := 15) (N := some 46) (v := ?_) (a' := ?_) #[true, true, true, true, true, true, true, true, true, true, true, true, true, true, true, true, false, false, false, false, false, false, false, false, false, false, false, false, false, false, false, false] rfl rfl (any_of HT_.out (by kernel_rfl)) (fun _ _ _ h => h) (Or.inl ⟨by rfl, ?_⟩) ?_ ?_
                            rotate_left
                            · intro w'
                              go_simp
                              with_reducible rfl
                            rotate_left
                            · simp only [Act.put, List.setIfInBounds_toArray, List.set_cons_zero, List.set_cons_succ, i64_w, i32_w]
                              rfl
                            refine pure_ (i := 16) (N := some 47) (v := ?_) (a' := ?_) #[true, true, true, true, true, true, true, true, true, true, true, true, true, true, true, true, true, false, false, false, false, false, false, false, false, false, false, false, false, false, false, false] rfl rfl (any_of HT_.out (by kernel_rfl)) (fun _ _ _ h => h) (Or.inl ⟨by rfl, ?_⟩) ?_ ?_
                            rotate_left
                            · intro w'
                              go_simp
                              with_reducible rfl
                            rotate_left
                            · simp only [Act.put, List.setIfInBounds_toArray, List.set_cons_zero, List.set_cons_succ, i64_w, i32_w]
                              rfl
                            refine pure_ (i := 20) (N := some 51) (v := ?_) (a' := ?_) #[true, true, true, true, true, true, true, true, true, true, true, true, true, true, true, true, true, false, false, false, true, false, false, false, false, false, false, false, false, false, false, false] rfl rfl (any_of HT_.out (by kernel_rfl)) (fun _ _ _ h => h) (Or.inl ⟨by rfl, ?_⟩) ?_ ?_
                            rotate_left
                            · intro w'
                              go_simp
                              with_reducible rfl
                            rotate_left
                            · simp only [Act.put, List.setIfInBounds_toArray, List.set_cons_zero, List.set_cons_succ, i64_w, i32_w]
                              rfl
                            refine pure_ (i := 21) (N := some 52) (v := ?_) (a' := ?_) #[true, true, true, true, true, true, true, true, true, true, true, true, true, true, true, true, true, false, false, false, true, true, false, false, false, false, false, false, false, false, false, false] rfl rfl (any_of HT_.out (by kernel_rfl)) (fun _ _ _ h => h) (Or.inl ⟨by rfl, ?_⟩) ?_ ?_
                            rotate_left
                            · intro w'
                              go_simp
                              with_reducible rfl
                            rotate_left
                            · simp only [Act.put, List.setIfInBounds_toArray, List.set_cons_zero, List.set_cons_succ, i64_w, i32_w]
                              rfl
                            refine pure_ (i := 27) (N := some 58) (v := ?_) (a' := ?_) #[true, true, true, true, true, true, true, true, true, true, true, true, true, true, true, true, true, false, false, false, true, true, false, false, false, false, false, true, false, false, false, false] rfl rfl (any_of HT_.out (by kernel_rfl)) (fun _ _ _ h => h) (Or.inl ⟨by rfl, ?_⟩) ?_ ?_
                            rotate_left
                            · intro w'
                              go_simp
                              with_reducible rfl
                            rotate_left
                            · simp only [Act.put, List.setIfInBounds_toArray, List.set_cons_zero, List.set_cons_succ, i64_w, i32_w]
                              rfl
                            refine take_ (i := 17) (N := some 48) (v := ?_) (a' := ?_) #[true, true, true, true, true, true, true, true, true, true, true, true, true, true, true, true, true, true, false, false, true, true, false, false, false, false, false, true, false, false, false, false] rfl rfl (take_ofW HT_.out HW_.out (by kernel_rfl)) (fun _ _ _ h => h) (Or.inl ⟨by rfl, ?_⟩) hHeld ?_ ?_
                            rotate_left
                            · rintro w' ⟨s0, s1, s2, s3, s4, s5, s6, s7, s8, s9, s10⟩
                              go_simp
                              with_reducible rfl
                            rotate_left
                            · simp only [Act.put, List.setIfInBounds_toArray, List.set_cons_zero, List.set_cons_succ, i64_w, i32_w]
                              rfl
                            refine pure_ (i := 18) (N := some 49) (v := ?_) (a' := ?_) #[true, true, true, true, true, true, true, true, true, true, true, true, true, true, true, true, true, true, true, false, true, true, false, false, false, false, false, true, false, false, false, false] rfl rfl (any_of HT_.out (by kernel_rfl)) (fun _ _ _ h => h) (Or.inl ⟨by rfl, ?_⟩) ?_ ?_
                            rotate_left
                            · intro w'
                              go_simp
                              with_reducible rfl
                            rotate_left
                            · simp only [Act.put, List.setIfInBounds_toArray, List.set_cons_zero, List.set_cons_succ, i64_w, i32_w]
                              rfl
                            refine take_ (i := 19) (N := some 50) (v := ?_) (a' := ?_) #[true, true, true, true, true, true, true, true, true, true, true, true, true, true, true, true, true, true, true, true, true, true, false, false, false, false, false, true, false, false, false, false] rfl rfl (take_ofW HT_.out HW_.out (by kernel_rfl)) (fun _ _ _ h => h) (Or.inl ⟨by rfl, ?_⟩) hHeld ?_ ?_
                            rotate_left
                            · rintro w' ⟨s0, s1, s2, s3, s4, s5, s6, s7, s8, s9, s10⟩
                              go_simp
                              with_reducible rfl
                            rotate_left
                            · simp only [Act.put, List.setIfInBounds_toArray, List.set_cons_zero, List.set_cons_succ, i64_w, i32_w]
                              rfl
                            refine take_ (i := 22) (N := some 53) (v := ?_) (a' := ?_) #[true, true, true, true, true, true, true, true, true, true, true, true, true, true, true, true, true, true, true, true, true, true, true, false, false, false, false, true, false, false, false, false] rfl rfl (take_ofW HT_.out HW_.out (by kernel_rfl)) (fun _ _ _ h => h) (Or.inl ⟨by rfl, ?_⟩) hHeld ?_ ?_
                            rotate_left
                            · rintro w' ⟨s0, s1, s2, s3, s4, s5, s6, s7, s8, s9, s10⟩
                              go_simp
                              with_reducible rfl
                            rotate_left
                            · simp only [Act.put, List.setIfInBounds_toArray, List.set_cons_zero, List.set_cons_succ, i64_w, i32_w]
                              rfl
                            refine pure_ (i := 23) (N := some 54) (v := ?_) (a' := ?_) #[true, true, true, true, true, true, true, true, true, true, true, true, true, true, true, true, true, true, true, true, true, true, true, true, false, false, false, true, false, false, false, false] rfl rfl (any_of HT_.out (by kernel_rfl)) (fun _ _ _ h => h) (Or.inl ⟨by rfl, ?_⟩) ?_ ?_
                            rotate_left
                            · intro w'
                              go_simp
                              with_reducible rfl
                            rotate_left
                            · simp only [Act.put, List.setIfInBounds_toArray, List.set_cons_zero, List.set_cons_succ, i64_w, i32_w]
                              rfl
                            refine take_ (i := 24) (N := some 55) (v := ?_) (a' := ?_) #[true, true, true, true, true, true, true, true, true, true, true, true, true, true, true, true, true, true, true, true, true, true, true, true, true, false, false, true, false, false, false, false] rfl rfl (take_ofW HT_.out HW_.out (by kernel_rfl)) (fun _ _ _ h => h) (Or.inl ⟨by rfl, ?_⟩) hHeld ?_ ?_
                            rotate_left
                            · rintro w' ⟨s0, s1, s2, s3, s4, s5, s6, s7, s8, s9, s10⟩
                              go_simp
                              with_reducible rfl
                            rotate_left
                            · simp only [Act.put, List.setIfInBounds_toArray, List.set_cons_zero, List.set_cons_succ, i64_w, i32_w]
                              rfl
                            refine pure_ (i := 25) (N := some 56) (v := ?_) (a' := ?_) #[true, true, true, true, true, true, true, true, true, true, true, true, true, true, true, true, true, true, true, true, true, true, true, true, true, true, false, true, false, false, false, false] rfl rfl (any_of HT_.out (by kernel_rfl)) (fun _ _ _ h => h) (Or.inl ⟨by rfl, ?_⟩) ?_ ?_
                            rotate_left
                            · intro w'
                              go_simp
                              with_reducible rfl
                            rotate_left
                            · simp only [Act.put, List.setIfInBounds_toArray, List.set_cons_zero, List.set_cons_succ, i64_w, i32_w]
                              rfl
                            refine pure_ (i := 26) (N := some 57) (v := ?_) (a' := ?_) #[true, true, true, true, true, true, true, true, true, true, true, true, true, true, true, true, true, true, true, true, true, true, true, true, true, true, true, true, false, false, false, false] rfl rfl (any_of HT_.out (by kernel_rfl)) (fun _ _ _ h => h) (Or.inl ⟨by rfl, ?_⟩) ?_ ?_
                            rotate_left
                            · intro w'
                              go_simp
                              with_reducible rfl
                            rotate_left
                            · simp only [Act.put, List.setIfInBounds_toArray, List.set_cons_zero, List.set_cons_succ, i64_w, i32_w]
                              rfl
                            refine take_ (i := 28) (N := some 59) (v := ?_) (a' := ?_) #[true, true, true, true, true, true, true, true, true, true, true, true, true, true, true, true, true, true, true, true, true, true, true, true, true, true, true, true, true, false, false, false] rfl rfl (take_ofW HT_.out HW_.out (by kernel_rfl)) (fun _ _ _ h => h) (Or.inl ⟨by rfl, ?_⟩) hHeld ?_ ?_
                            rotate_left
                            · rintro w' ⟨s0, s1, s2, s3, s4, s5, s6, s7, s8, s9, s10⟩
                              go_simp
                              with_reducible rfl
                            rotate_left
                            · simp only [Act.put, List.setIfInBounds_toArray, List.set_cons_zero, List.set_cons_succ, i64_w, i32_w]
                              rfl
                            refine one_ (i := 29) (N := some 60) #[true, true, true, true, true, true, true, true, true, true, true, true, true, true, true, true, true, true, true, true, true, true, true, true, true, true, true, true, true, true, false, false] rfl rfl (one_of HT_.out (by kernel_rfl)) (by decide) (fun K hK => ?_)
                            refine goes_ Try.func16 (by kernel_rfl) rfl #[.int .i64 (wrap64 (t228 - (wrap64 ((rd t221 ((rd_T31 t217 x19_1).f2)) - (rd t221 ((rd_T31 t217 x19_1).f1)))))), .int .i64 t213] (by rfl) rfl rfl (by (try simp only [List.map_toArray, List.map_cons, List.map_nil]); first | done | rfl | (simp only [List.length_drop, List.length_take]; rfl)) ?_
                            with_reducible refine (railplanref1_Mod.calls (wrap64 (t228 - (wrap64 ((rd t221 ((rd_T31 t217 x19_1).f2)) - (rd t221 ((rd_T31 t217 x19_1).f1)))))) t213 t231 _ A38.out).mono ?_
                            rintro e w' ⟨rfl, ⟨nd, rfl⟩⟩
                            refine ⟨_, rfl, ?_⟩
                            refine hK.out _ _ ⟨(blk_cell BK227.out 0).trans rfl, (blk_cell BK227.out 1).trans rfl, (blk_cell BK227.out 2).trans rfl, (blk_cell BK227.out 3).trans rfl, (blk_cell BK227.out 4).trans rfl, (blk_cell BK227.out 5).trans rfl, (blk_cell BK220.out 0).trans rfl, (blk_cell BK220.out 1).trans rfl, (blk_cell BK220.out 2).trans rfl, hHeld.2.2.2.2.2.2.2.2.2.1, hHeld.2.2.2.2.2.2.2.2.2.2⟩ (fun hHeld => ?_)
                            clear hK K
                            refine norm_ (a' := ?_) ?_ ?_
                            rotate_left
                            · show Act.put _ (some 60) _ = _
                              simp only [Act.put, List.setIfInBounds_toArray, List.set_cons_zero, List.set_cons_succ, i64_w, i32_w]
                              rfl
                            refine pure_ (i := 30) (N := some 61) (v := ?_) (a' := ?_) #[true, true, true, true, true, true, true, true, true, true, true, true, true, true, true, true, true, true, true, true, true, true, true, true, true, true, true, true, true, true, true, false] rfl rfl (any_of HT_.out (by kernel_rfl)) (fun _ _ _ h => h) (Or.inl ⟨by rfl, ?_⟩) ?_ ?_
                            rotate_left
                            · intro w'
                              go_simp
                              with_reducible rfl
                            rotate_left
                            · simp only [Act.put, List.setIfInBounds_toArray, List.set_cons_zero, List.set_cons_succ, i64_w, i32_w]
                              rfl
                            refine pure_ (i := 31) (N := some 62) (v := ?_) (a' := ?_) #[true, true, true, true, true, true, true, true, true, true, true, true, true, true, true, true, true, true, true, true, true, true, true, true, true, true, true, true, true, true, true, true] rfl rfl (any_of HT_.out (by kernel_rfl)) (fun _ _ _ h => h) (Or.inl ⟨by rfl, ?_⟩) ?_ ?_
                            rotate_left
                            · intro w'
                              go_simp
                              with_reducible rfl
                            rotate_left
                            · simp only [Act.put, List.setIfInBounds_toArray, List.set_cons_zero, List.set_cons_succ, i64_w, i32_w]
                              rfl
                            refine done_ (done_of HT_.out (by kernel_rfl)) ?_
                            have hcz49_0 : w48.cell? ⟨gb227, 0, none⟩ = some (.int .i64 ((rd_T31 t217 x19_1).f0)) := (blk_cell BK227.out 0).trans rfl
                            have hcz49_1 : w48.cell? ⟨gb227, 1, none⟩ = some (.int .i64 ((rd_T31 t217 x19_1).f1)) := (blk_cell BK227.out 1).trans rfl
                            have hcz49_2 : w48.cell? ⟨gb227, 2, none⟩ = some (.int .i64 ((rd_T31 t217 x19_1).f2)) := (blk_cell BK227.out 2).trans rfl
                            have hcz49_3 : w48.cell? ⟨gb227, 3, none⟩ = some (.int .i64 ((rd_T31 t217 x19_1).f3)) := (blk_cell BK227.out 3).trans rfl
                            have hcz49_4 : w48.cell? ⟨gb227, 4, none⟩ = some (.int .i64 ((rd_T31 t217 x19_1).f4)) := (blk_cell BK227.out 4).trans rfl
                            have hcz49_5 : w48.cell? ⟨gb227, 5, none⟩ = some (.int .i64 ((rd_T31 t217 x19_1).f5)) := (blk_cell BK227.out 5).trans rfl
                            have hfz49_0 := blk_frozen BK227.out 0
                            have hfz49_1 := blk_frozen BK227.out 1
                            have hfz49_2 := blk_frozen BK227.out 2
                            have hfz49_3 := blk_frozen BK227.out 3
                            have hfz49_4 := blk_frozen BK227.out 4
                            have hfz49_5 := blk_frozen BK227.out 5
                            try go_wp2
                            go_roundg k1
                            case measure => have := HK1.out; omega
                            case rel => exact ⟨(decide (t228 ≤ ((rd_T31 t217 x19_1).f4))), (wrap64 (x19_1 + 1)), (by first | rfl | (simp; done) | (simp [*]; done)), (by first | rfl | (simp; done) | (simp [*]; done)), H', ⟨by have := HK1.out; omega⟩, ⟨by (with_reducible repeat (first | apply Kd.R_alloc | apply Kd.R_drewN | apply Kd.R_drew)); exact HO_6.out⟩, ⟨by (with_reducible repeat (first | apply Kd.R_alloc | apply Kd.R_drewN | apply Kd.R_drew)); exact HO_221001.out⟩, ⟨by (with_reducible repeat (first | apply Kd.R_alloc | apply Kd.R_drewN | apply Kd.R_drew)); exact Kd.R_mono HO_221002.out (fun _ hk => trivial)⟩, ⟨by (with_reducible repeat (first | refine blk_drewN ?_ _ | refine blk_drew ?_ | refine blk_alloc ?_ _)); exact BK220.out⟩, ⟨by repeat (first | (with_reducible first | exact HB.out | apply below_alloc | apply pw_below_drewN | apply below_drew1 | refine below_set ?_ GE220.out | refine below_set ?_ GE227.out) | exact HB.out)⟩⟩
                          · replace c40 := Bool.eq_false_iff.mpr c40
                            subst c40
                            have H1 : (railplanlaw11_NetworkDurations.l0 k1 t221 false (t217.length : Int) (wrap64 (x19_1 + 1)) t213 t214 t217) = some r := by rw [if_neg (show ¬ (false = true) by decide)] at H; exact H
                            clear H
                            have H := H1
                            clear H1
                            have H' := Aside0.mk H
                            clear H
                            have hcz50_0 : wr.cell? ⟨gb220, 0, none⟩ = some (.int .i64 t213) := (blk_cell BK220.out 0).trans rfl
                            have hcz50_1 : wr.cell? ⟨gb220, 1, none⟩ = some (.slice Ao8 t214.length co8) := (blk_cell BK220.out 1).trans rfl
                            have hcz50_2 : wr.cell? ⟨gb220, 2, none⟩ = some (.slice Ao9 t217.length co9) := (blk_cell BK220.out 2).trans rfl
                            have hfz50_0 := blk_frozen BK220.out 0
                            have hfz50_1 := blk_frozen BK220.out 1
                            have hfz50_2 := blk_frozen BK220.out 2
                            have p226 : 0 ≤ (x19_1 : Int) := of_decide_eq_true (by first | (with_reducible assumption) | assumption)
                            have q226 : x19_1 < (t217.length : Int) := of_decide_eq_true (by first | (with_reducible assumption) | assumption)
                            obtain ⟨ad226, e226, hx226_0, hx226_1, hx226_2, hx226_3, hx226_4, hx226_5⟩ := at_T31 (Kd.R_reads' HO_221002.out).2.2 x19_1 p226 q226
                            cases e226
                            replace p226 := eq_true p226
                            replace q226 := eq_true q226
                            try go_wp2_with (first | ((with_reducible refine gate_dst (N := 9) rfl ?_); refine box_event ?hg (N := 9) ?hd (cs := #[.int .i64 0, .int .i64 0, .int .i64 0, .int .i64 0, .int .i64 0, .int .i64 0]) (t := 31) ?hr ?_; (case hd => rfl); (case hg => rfl); (case hr => first | (go_simp; done) | (go_simp; rfl)); intro gb227 hg w51 hbox hb; have n0_ := Aside0.mk (Kd.R_below (by (with_reducible repeat (first | apply Kd.R_alloc | apply Kd.R_drewN | apply Kd.R_drew)); exact HO_6.out) hb); have n1_ := Aside0.mk (Kd.R_below (by (with_reducible repeat (first | apply Kd.R_alloc | apply Kd.R_drewN | apply Kd.R_drew)); exact HO_221001.out) hb); have n2_ := Aside0.mk (Kd.R_below (Kd.R_elderB (by (with_reducible repeat (first | apply Kd.R_alloc | apply Kd.R_drewN | apply Kd.R_drew)); exact HO_221002.out) gb227 (Nat.le_of_eq hg.symm)) hb); have n3_ := Aside0.mk (blk_below (g := gb220) (o := .cells #[.int .i64 t213, .slice Ao8 t214.length co8, .slice (some ad226) t217.length co9] 26 (0, 0)) (by (with_reducible repeat (first | refine blk_drewN ?_ _ | refine blk_drew ?_ | refine blk_alloc ?_ _)); exact BK220.out) hb); have n4_ := Aside0.mk (below_step (by repeat (first | (with_reducible first | exact HB.out | apply below_alloc | apply pw_below_drewN | apply below_drew1 | refine below_set ?_ GE220.out) | exact HB.out)) hb); have n5_ := Aside0.mk (hbox); have n6_ := Aside0.mk ((by rw [hg]; exact (below_size (by repeat (first | (with_reducible first | exact HB.out | apply below_alloc | apply pw_below_drewN | apply below_drew1 | refine below_set ?_ GE220.out) | exact HB.out))) : w.heap.size ≤ gb227)); have n7_ := Aside0.mk ((by rw [hg]; exact (below_size (by repeat (first | (with_reducible first | exact HB.out | apply below_alloc | apply pw_below_drewN | apply below_drew1 | refine below_set ?_ GE220.out) | exact HB.out))) : w.heap.size ≤ gb227)); have n8_ := Aside0.mk ((by rw [hg]; exact Nat.ne_of_lt (blk_lt (g := gb220) (o := .cells #[.int .i64 t213, .slice Ao8 t214.length co8, .slice (some ad226) t217.length co9] 26 (0, 0)) (by (with_reducible repeat (first | refine blk_drewN ?_ _ | refine blk_drew ?_ | refine blk_alloc ?_ _)); exact BK220.out)) : gb220 ≠ gb227)); have n9_ := Aside0.mk ((by rw [hg]; exact Nat.ne_of_gt (blk_lt (g := gb220) (o := .cells #[.int .i64 t213, .slice Ao8 t214.length co8, .slice (some ad226) t217.length co9] 26 (0, 0)) (by (with_reducible repeat (first | refine blk_drewN ?_ _ | refine blk_drew ?_ | refine blk_alloc ?_ _)); exact BK220.out)) : gb227 ≠ gb220)); clear HO_6; clear HO_221001; clear HO_221002; clear BK220; clear HB; have HO_6 := n0_; have HO_221001 := n1_; have HO_221002 := n2_; have BK220 := n3_; have HB := n4_; have BK227 := n5_; have GW227 := n6_; have GE227 := n7_; have NB220_227 := n8_; have NB227_220 := n9_; clear n0_ n1_ n2_ n3_ n4_ n5_ n6_ n7_ n8_ n9_; clear hb hbox hg; have hnb52 := NB227_220.out; have hnc52 := NB220_227.out; have hcz53_0 : w51.cell? ⟨gb227, 0, none⟩ = some (.int .i64 0) := (blk_cell BK227.out 0).trans rfl; have hcz53_1 : w51.cell? ⟨gb227, 1, none⟩ = some (.int .i64 0) := (blk_cell BK227.out 1).trans rfl; have hcz53_2 : w51.cell? ⟨gb227, 2, none⟩ = some (.int .i64 0) := (blk_cell BK227.out 2).trans rfl; have hcz53_3 : w51.cell? ⟨gb227, 3, none⟩ = some (.int .i64 0) := (blk_cell BK227.out 3).trans rfl; have hcz53_4 : w51.cell? ⟨gb227, 4, none⟩ = some (.int .i64 0) := (blk_cell BK227.out 4).trans rfl; have hcz53_5 : w51.cell? ⟨gb227, 5, none⟩ = some (.int .i64 0) := (blk_cell BK227.out 5).trans rfl; have hfz53_0 := blk_frozen BK227.out 0; have hfz53_1 := blk_frozen BK227.out 1; have hfz53_2 := blk_frozen BK227.out 2; have hfz53_3 := blk_frozen BK227.out 3; have hfz53_4 := blk_frozen BK227.out 4; have hfz53_5 := blk_frozen BK227.out 5; have hcz54_0 : w51.cell? ⟨gb220, 0, none⟩ = some (.int .i64 t213) := (blk_cell BK220.out 0).trans rfl; have hcz54_1 : w51.cell? ⟨gb220, 1, none⟩ = some (.slice Ao8 t214.length co8) := (blk_cell BK220.out 1).trans rfl; have hcz54_2 : w51.cell? ⟨gb220, 2, none⟩ = some (.slice (some ad226) t217.length co9) := (blk_cell BK220.out 2).trans rfl; have hfz54_0 := blk_frozen BK220.out 0; have hfz54_1 := blk_frozen BK220.out 1; have hfz54_2 := blk_frozen BK220.out 2; obtain ⟨Ao55, co55, eo55⟩ := Kd.R_slice HO_6.out; subst eo55) | ((with_reducible refine gate_callee (f := 15) rfl ?_); refine goesL_ (some 30) rfl rfl Try.func15 (by kernel_rfl) rfl #[.agg #[.int .i64 t213, .slice Ao8 t214.length co8, .slice (some ad226) t217.length co9], .slice Ao55 t221.length co55, .int .i64 x19_1] rfl (by (try simp only [List.map_toArray, List.map_cons, List.map_nil]); first | done | rfl | (simp only [List.length_drop, List.length_take]; rfl)) ?_; (with_reducible refine (network_Duration.calls t213 _ _ t214 _ _ t217 _ _ t221 x19_1 t228 _ ?side1 ?side2 ?side3 ?side4 ?side5 ?side6 A15.out).mono ?_); (case side1 => refine (Kd.R_reads' (e := 46) (base := w.heap.size) (ok := fun k_ => True) (n := t214.length) (c := co8) ?_).2.2; exact (by (with_reducible repeat (first | apply Kd.R_alloc | apply Kd.R_drewN | apply Kd.R_drew)); exact (Kd.R_mono (Kd.R_far (p := ⟨gb227, 5, none⟩) (Kd.R_far (p := ⟨gb227, 4, none⟩) (Kd.R_far (p := ⟨gb227, 3, none⟩) (Kd.R_far (p := ⟨gb227, 2, none⟩) (Kd.R_far (p := ⟨gb227, 1, none⟩) (Kd.R_far (p := ⟨gb227, 0, none⟩) (Kd.R_types HO_221001.out BK227.out (by decide)) (fun _ hk => hk.2) (.int .i64 ((rd_T31 t217 x19_1).f0))) (fun _ hk => hk.2) (.int .i64 ((rd_T31 t217 x19_1).f1))) (fun _ hk => hk.2) (.int .i64 ((rd_T31 t217 x19_1).f2))) (fun _ hk => hk.2) (.int .i64 ((rd_T31 t217 x19_1).f3))) (fun _ hk => hk.2) (.int .i64 ((rd_T31 t217 x19_1).f4))) (fun _ hk => hk.2) (.int .i64 ((rd_T31 t217 x19_1).f5))) (fun _ h_ => h_.1)))); (case side2 => exact (Kd.R_reads' HO_221001.out).2.1); (case side3 => refine (Kd.R_reads' (e := 31) (base := w.heap.size) (ok := fun k_ => (True ∧ k_ ≠ gb227)) (n := t217.length) (c := co9) ?_).2.2; exact (by (with_reducible repeat (first | apply Kd.R_alloc | apply Kd.R_drewN | apply Kd.R_drew)); exact (Kd.R_mono (Kd.R_far (p := ⟨gb227, 5, none⟩) (Kd.R_far (p := ⟨gb227, 4, none⟩) (Kd.R_far (p := ⟨gb227, 3, none⟩) (Kd.R_far (p := ⟨gb227, 2, none⟩) (Kd.R_far (p := ⟨gb227, 1, none⟩) (Kd.R_far (p := ⟨gb227, 0, none⟩) (Kd.R_mono HO_221002.out (fun k_ hk => (⟨hk, hk.2⟩ : _ ∧ k_ ≠ gb227))) (fun _ hk => hk.2) (.int .i64 ((rd_T31 t217 x19_1).f0))) (fun _ hk => hk.2) (.int .i64 ((rd_T31 t217 x19_1).f1))) (fun _ hk => hk.2) (.int .i64 ((rd_T31 t217 x19_1).f2))) (fun _ hk => hk.2) (.int .i64 ((rd_T31 t217 x19_1).f3))) (fun _ hk => hk.2) (.int .i64 ((rd_T31 t217 x19_1).f4))) (fun _ hk => hk.2) (.int .i64 ((rd_T31 t217 x19_1).f5))) (fun _ h_ => h_.1)))); (case side4 => exact (Kd.R_reads' HO_221002.out).2.1); (case side5 => refine (Kd.R_reads' (e := 3) (base := w.heap.size) (ok := fun k_ => True) (n := t221.length) (c := co55) ?_).2.2; exact (by (with_reducible repeat (first | apply Kd.R_alloc | apply Kd.R_drewN | apply Kd.R_drew)); exact (Kd.R_mono (Kd.R_far (p := ⟨gb227, 5, none⟩) (Kd.R_far (p := ⟨gb227, 4, none⟩) (Kd.R_far (p := ⟨gb227, 3, none⟩) (Kd.R_far (p := ⟨gb227, 2, none⟩) (Kd.R_far (p := ⟨gb227, 1, none⟩) (Kd.R_far (p := ⟨gb227, 0, none⟩) (Kd.R_types HO_6.out BK227.out (by decide)) (fun _ hk => hk.2) (.int .i64 ((rd_T31 t217 x19_1).f0))) (fun _ hk => hk.2) (.int .i64 ((rd_T31 t217 x19_1).f1))) (fun _ hk => hk.2) (.int .i64 ((rd_T31 t217 x19_1).f2))) (fun _ hk => hk.2) (.int .i64 ((rd_T31 t217 x19_1).f3))) (fun _ hk => hk.2) (.int .i64 ((rd_T31 t217 x19_1).f4))) (fun _ hk => hk.2) (.int .i64 ((rd_T31 t217 x19_1).f5))) (fun _ h_ => h_.1)))); (case side6 => exact (Kd.R_reads' HO_6.out).2.1); rintro e w56 ⟨rfl, hb⟩; refine ⟨_, rfl, ?_⟩; have n0_ := Aside0.mk (Kd.R_below (by (with_reducible repeat (first | apply Kd.R_alloc | apply Kd.R_drewN | apply Kd.R_drew)); exact (Kd.R_mono (Kd.R_far (p := ⟨gb227, 5, none⟩) (Kd.R_far (p := ⟨gb227, 4, none⟩) (Kd.R_far (p := ⟨gb227, 3, none⟩) (Kd.R_far (p := ⟨gb227, 2, none⟩) (Kd.R_far (p := ⟨gb227, 1, none⟩) (Kd.R_far (p := ⟨gb227, 0, none⟩) (Kd.R_types HO_6.out BK227.out (by decide)) (fun _ hk => hk.2) (.int .i64 ((rd_T31 t217 x19_1).f0))) (fun _ hk => hk.2) (.int .i64 ((rd_T31 t217 x19_1).f1))) (fun _ hk => hk.2) (.int .i64 ((rd_T31 t217 x19_1).f2))) (fun _ hk => hk.2) (.int .i64 ((rd_T31 t217 x19_1).f3))) (fun _ hk => hk.2) (.int .i64 ((rd_T31 t217 x19_1).f4))) (fun _ hk => hk.2) (.int .i64 ((rd_T31 t217 x19_1).f5))) (fun _ h_ => h_.1))) hb); have n1_ := Aside0.mk (Kd.R_below (by (with_reducible repeat (first | apply Kd.R_alloc | apply Kd.R_drewN | apply Kd.R_drew)); exact (Kd.R_mono (Kd.R_far (p := ⟨gb227, 5, none⟩) (Kd.R_far (p := ⟨gb227, 4, none⟩) (Kd.R_far (p := ⟨gb227, 3, none⟩) (Kd.R_far (p := ⟨gb227, 2, none⟩) (Kd.R_far (p := ⟨gb227, 1, none⟩) (Kd.R_far (p := ⟨gb227, 0, none⟩) (Kd.R_types HO_221001.out BK227.out (by decide)) (fun _ hk => hk.2) (.int .i64 ((rd_T31 t217 x19_1).f0))) (fun _ hk => hk.2) (.int .i64 ((rd_T31 t217 x19_1).f1))) (fun _ hk => hk.2) (.int .i64 ((rd_T31 t217 x19_1).f2))) (fun _ hk => hk.2) (.int .i64 ((rd_T31 t217 x19_1).f3))) (fun _ hk => hk.2) (.int .i64 ((rd_T31 t217 x19_1).f4))) (fun _ hk => hk.2) (.int .i64 ((rd_T31 t217 x19_1).f5))) (fun _ h_ => h_.1))) hb); have n2_ := Aside0.mk (Kd.R_below (by (with_reducible repeat (first | apply Kd.R_alloc | apply Kd.R_drewN | apply Kd.R_drew)); exact (Kd.R_mono (Kd.R_far (p := ⟨gb227, 5, none⟩) (Kd.R_far (p := ⟨gb227, 4, none⟩) (Kd.R_far (p := ⟨gb227, 3, none⟩) (Kd.R_far (p := ⟨gb227, 2, none⟩) (Kd.R_far (p := ⟨gb227, 1, none⟩) (Kd.R_far (p := ⟨gb227, 0, none⟩) (Kd.R_mono HO_221002.out (fun k_ hk => (⟨hk, hk.2⟩ : _ ∧ k_ ≠ gb227))) (fun _ hk => hk.2) (.int .i64 ((rd_T31 t217 x19_1).f0))) (fun _ hk => hk.2) (.int .i64 ((rd_T31 t217 x19_1).f1))) (fun _ hk => hk.2) (.int .i64 ((rd_T31 t217 x19_1).f2))) (fun _ hk => hk.2) (.int .i64 ((rd_T31 t217 x19_1).f3))) (fun _ hk => hk.2) (.int .i64 ((rd_T31 t217 x19_1).f4))) (fun _ hk => hk.2) (.int .i64 ((rd_T31 t217 x19_1).f5))) (fun _ h_ => h_.1))) hb); have n3_ := Aside0.mk (blk_below (g := gb220) (o := .cells #[.int .i64 t213, .slice Ao8 t214.length co8, .slice (some ad226) t217.length co9] 26 (0, 0)) (by (with_reducible repeat (first | refine blk_drewN ?_ _ | refine blk_drew ?_ | refine blk_alloc ?_ _)); refine blk_far ?_ NB220_227.out _; (with_reducible repeat (first | refine blk_drewN ?_ _ | refine blk_drew ?_ | refine blk_alloc ?_ _)); refine blk_far ?_ NB220_227.out _; (with_reducible repeat (first | refine blk_drewN ?_ _ | refine blk_drew ?_ | refine blk_alloc ?_ _)); refine blk_far ?_ NB220_227.out _; (with_reducible repeat (first | refine blk_drewN ?_ _ | refine blk_drew ?_ | refine blk_alloc ?_ _)); refine blk_far ?_ NB220_227.out _; (with_reducible repeat (first | refine blk_drewN ?_ _ | refine blk_drew ?_ | refine blk_alloc ?_ _)); refine blk_far ?_ NB220_227.out _; (with_reducible repeat (first | refine blk_drewN ?_ _ | refine blk_drew ?_ | refine blk_alloc ?_ _)); refine blk_far ?_ NB220_227.out _; (with_reducible repeat (first | refine blk_drewN ?_ _ | refine blk_drew ?_ | refine blk_alloc ?_ _)); exact BK220.out) hb); have n4_ := Aside0.mk (blk_below (g := gb227) (o := .cells #[.int .i64 ((rd_T31 t217 x19_1).f0), .int .i64 ((rd_T31 t217 x19_1).f1), .int .i64 ((rd_T31 t217 x19_1).f2), .int .i64 ((rd_T31 t217 x19_1).f3), .int .i64 ((rd_T31 t217 x19_1).f4), .int .i64 ((rd_T31 t217 x19_1).f5)] 31 (0, 0)) (by (with_reducible repeat (first | refine blk_drewN ?_ _ | refine blk_drew ?_ | refine blk_alloc ?_ _)); refine blk_put (cs := #[.int .i64 ((rd_T31 t217 x19_1).f0), .int .i64 ((rd_T31 t217 x19_1).f1), .int .i64 ((rd_T31 t217 x19_1).f2), .int .i64 ((rd_T31 t217 x19_1).f3), .int .i64 ((rd_T31 t217 x19_1).f4), .int .i64 0]) ?_ 5 _ rfl; (with_reducible repeat (first | refine blk_drewN ?_ _ | refine blk_drew ?_ | refine blk_alloc ?_ _)); refine blk_put (cs := #[.int .i64 ((rd_T31 t217 x19_1).f0), .int .i64 ((rd_T31 t217 x19_1).f1), .int .i64 ((rd_T31 t217 x19_1).f2), .int .i64 ((rd_T31 t217 x19_1).f3), .int .i64 0, .int .i64 0]) ?_ 4 _ rfl; (with_reducible repeat (first | refine blk_drewN ?_ _ | refine blk_drew ?_ | refine blk_alloc ?_ _)); refine blk_put (cs := #[.int .i64 ((rd_T31 t217 x19_1).f0), .int .i64 ((rd_T31 t217 x19_1).f1), .int .i64 ((rd_T31 t217 x19_1).f2), .int .i64 0, .int .i64 0, .int .i64 0]) ?_ 3 _ rfl; (with_reducible repeat (first | refine blk_drewN ?_ _ | refine blk_drew ?_ | refine blk_alloc ?_ _)); refine blk_put (cs := #[.int .i64 ((rd_T31 t217 x19_1).f0), .int .i64 ((rd_T31 t217 x19_1).f1), .int .i64 0, .int .i64 0, .int .i64 0, .int .i64 0]) ?_ 2 _ rfl; (with_reducible repeat (first | refine blk_drewN ?_ _ | refine blk_drew ?_ | refine blk_alloc ?_ _)); refine blk_put (cs := #[.int .i64 ((rd_T31 t217 x19_1).f0), .int .i64 0, .int .i64 0, .int .i64 0, .int .i64 0, .int .i64 0]) ?_ 1 _ rfl; (with_reducible repeat (first | refine blk_drewN ?_ _ | refine blk_drew ?_ | refine blk_alloc ?_ _)); refine blk_put (cs := #[.int .i64 0, .int .i64 0, .int .i64 0, .int .i64 0, .int .i64 0, .int .i64 0]) ?_ 0 _ rfl; (with_reducible repeat (first | refine blk_drewN ?_ _ | refine blk_drew ?_ | refine blk_alloc ?_ _)); exact BK227.out) hb); have n5_ := Aside0.mk (below_step (by repeat (first | (with_reducible first | exact HB.out | apply below_alloc | apply pw_below_drewN | apply below_drew1 | refine below_set ?_ GE220.out | refine below_set ?_ GE227.out) | exact HB.out)) hb); clear HO_6; clear HO_221001; clear HO_221002; clear BK220; clear BK227; clear HB; have HO_6 := n0_; have HO_221001 := n1_; have HO_221002 := n2_; have BK220 := n3_; have BK227 := n4_; have HB := n5_; clear n0_ n1_ n2_ n3_ n4_ n5_; (try clear hb); (try clear hb2); (try clear hk); (try clear hi)))
                            have n0_ := Aside0.mk (Kd.R_drew HO_6.out)
                            have n1_ := Aside0.mk (Kd.R_drew HO_221001.out)
                            have n2_ := Aside0.mk (Kd.R_drew HO_221002.out)
                            have n3_ := Aside0.mk (blk_drew BK220.out)
                            have n4_ := Aside0.mk (blk_drew BK227.out)
                            have n5_ := Aside0.mk (below_drew1 HB.out)
                            clear HO_6
                            clear HO_221001
                            clear HO_221002
                            clear BK220
                            clear BK227
                            clear HB
                            have HO_6 := n0_
                            have HO_221001 := n1_
                            have HO_221002 := n2_
                            have BK220 := n3_
                            have BK227 := n4_
                            have HB := n5_
                            clear n0_ n1_ n2_ n3_ n4_ n5_
                            have p229 : 0 ≤ (((rd_T31 t217 x19_1).f2) : Int) := of_decide_eq_true (by first | (with_reducible assumption) | assumption)
                            have q229 : ((rd_T31 t217 x19_1).f2) < (t221.length : Int) := of_decide_eq_true (by first | (with_reducible assumption) | assumption)
                            obtain ⟨ad229, e229, hx229_0⟩ := Kd.at_int (Kd.R_reads' HO_6.out).2.2 ((rd_T31 t217 x19_1).f2) p229 q229
                            cases e229
                            replace p229 := eq_true p229
                            replace q229 := eq_true q229
                            have p230 : 0 ≤ (((rd_T31 t217 x19_1).f1) : Int) := of_decide_eq_true (by first | (with_reducible assumption) | assumption)
                            have q230 : ((rd_T31 t217 x19_1).f1) < (t221.length : Int) := of_decide_eq_true (by first | (with_reducible assumption) | assumption)
                            obtain ⟨ad230, e230, hx230_0⟩ := Kd.at_int (Kd.R_reads' HO_6.out).2.2 ((rd_T31 t217 x19_1).f1) p230 q230
                            obtain rfl : ad229 = ad230 := (by injection e230)
                            replace p230 := eq_true p230
                            replace q230 := eq_true q230
                            refine start_ (n := 32) (S := fun w' => w'.cell? ⟨gb227, 0, none⟩ = some (.int .i64 ((rd_T31 t217 x19_1).f0)) ∧ w'.cell? ⟨gb227, 1, none⟩ = some (.int .i64 ((rd_T31 t217 x19_1).f1)) ∧ w'.cell? ⟨gb227, 2, none⟩ = some (.int .i64 ((rd_T31 t217 x19_1).f2)) ∧ w'.cell? ⟨gb227, 3, none⟩ = some (.int .i64 ((rd_T31 t217 x19_1).f3)) ∧ w'.cell? ⟨gb227, 4, none⟩ = some (.int .i64 ((rd_T31 t217 x19_1).f4)) ∧ w'.cell? ⟨gb227, 5, none⟩ = some (.int .i64 ((rd_T31 t217 x19_1).f5)) ∧ w'.cell? ⟨gb220, 0, none⟩ = some (.int .i64 t213) ∧ w'.cell? ⟨gb220, 1, none⟩ = some (.slice Ao8 t214.length co8) ∧ w'.cell? ⟨gb220, 2, none⟩ = some (.slice (some ad226) t217.length co9) ∧ w'.cell? (ad229.add (((rd_T31 t217 x19_1).f2)).toNat) = some (.int .i64 (rd t221 ((rd_T31 t217 x19_1).f2))) ∧ w'.cell? (ad229.add (((rd_T31 t217 x19_1).f1)).toNat) = some (.int .i64 (rd t221 ((rd_T31 t217 x19_1).f1)))) (ds := []) #[false, false, false, false, false, false, false, false, false, false, false, false, false, false, false, false, false, false, false, false, false, false, false, false, false, false, false, false, false, false, false, false] (by kernel_rfl) rfl rfl ⟨(blk_cell BK227.out 0).trans rfl, (blk_cell BK227.out 1).trans rfl, (blk_cell BK227.out 2).trans rfl, (blk_cell BK227.out 3).trans rfl, (blk_cell BK227.out 4).trans rfl, (blk_cell BK227.out 5).trans rfl, (blk_cell BK220.out 0).trans rfl, (blk_cell BK220.out 1).trans rfl, (blk_cell BK220.out 2).trans rfl, hx229_0, hx230_0⟩ (fun hHeld => ?_); refine with_tabW railplanlaw11_NetworkDurations.tab9 railplanlaw11_NetworkDurations.bits9 (fun HT_ HW_ => ?_)
                            generalize w56.drew = w57 at HO_6 HO_221001 HO_221002 BK220 BK227 HB hx229_0 hx230_0 hHeld ⊢
                            refine pure_ (i := 0) (N := some 31) (v := ?_) (a' := ?_) #[true, false, false, false, false, false, false, false, false, false, false, false, false, false, false, false, false, false, false, false, false, false, false, false, false, false, false, false, false, false, false, false] rfl rfl (any_of HT_.out (by kernel_rfl)) (fun _ _ _ h => h) (Or.inl ⟨by rfl, ?_⟩) ?_ ?_
                            rotate_left
                            · intro w'
                              go_simp
                              with_reducible rfl
                            rotate_left
                            · simp only [Act.put, List.setIfInBounds_toArray, List.set_cons_zero, List.set_cons_succ, i64_w, i32_w]
                              rfl
                            refine pure_ (i := 1) (N := some 32) (v := ?_) (a' := ?_) #[true, true, false, false, false, false, false, false, false, false, false, false, false, false, false, false, false, false, false, false, false, false, false, false, false, false, false, false, false, false, false, false] rfl rfl (any_of HT_.out (by kernel_rfl)) (fun _ _ _ h => h) (Or.inl ⟨by rfl, ?_⟩) ?_ ?_
                            rotate_left
                            · intro w'
                              go_simp
                              with_reducible rfl
                            rotate_left
                            · simp only [Act.put, List.setIfInBounds_toArray, List.set_cons_zero, List.set_cons_succ, i64_w, i32_w]
                              rfl
                            refine take_ (i := 2) (N := some 33) (v := ?_) (a' := ?_) #[true, true, true, false, false, false, false, false, false, false, false, false, false, false, false, false, false, false, false, false, false, false, false, false, false, false, false, false, false, false, false, false] rfl rfl (take_ofW HT_.out HW_.out (by kernel_rfl)) (fun _ _ _ h => h) (Or.inl ⟨by rfl, ?_⟩) hHeld ?_ ?_
                            rotate_left
                            · rintro w' ⟨s0, s1, s2, s3, s4, s5, s6, s7, s8, s9, s10⟩
                              go_simp
                              with_reducible rfl
                            rotate_left
                            · simp only [Act.put, List.setIfInBounds_toArray, List.set_cons_zero, List.set_cons_succ, i64_w, i32_w]
                              rfl
                            refine pure_ (i := 3) (N := some 34) (v := ?_) (a' := ?_) #[true, true, true, true, false, false, false, false, false, false, false, false, false, false, false, false, false, false, false, false, false, false, false, false, false, false, false, false, false, false, false, false] rfl rfl (any_of HT_.out (by kernel_rfl)) (fun _ _ _ h => h) (Or.inl ⟨by rfl, ?_⟩) ?_ ?_
                            rotate_left
                            · intro w'
                              go_simp
                              with_reducible rfl
                            rotate_left
                            · simp only [Act.put, List.setIfInBounds_toArray, List.set_cons_zero, List.set_cons_succ, i64_w, i32_w]
                              rfl
                            refine pure_ (i := 4) (N := some 35) (v := ?_) (a' := ?_) #[true, true, true, true, true, false, false, false, false, false, false, false, false, false, false, false, false, false, false, false, false, false, false, false, false, false, false, false, false, false, false, false] rfl rfl (any_of HT_.out (by kernel_rfl)) (fun _ _ _ h => h) (Or.inl ⟨by rfl, ?_⟩) ?_ ?_
                            rotate_left
                            · intro w'
                              go_simp
                              with_reducible rfl
                            rotate_left
                            · simp only [Act.put, List.setIfInBounds_toArray, List.set_cons_zero, List.set_cons_succ, i64_w, i32_w]
                              rfl
                            refine pure_ (i := 5) (N := some 36) (v := ?_) (a' := ?_) #[true, true, true, true, true, true, false, false, false, false, false, false, false, false, false, false, false, false, false, false, false, false, false, false, false, false, false, false, false, false, false, false] rfl rfl (any_of HT_.out (by kernel_rfl)) (fun _ _ _ h => h) (Or.inl ⟨by rfl, ?_⟩) ?_ ?_
                            rotate_left
                            · intro w'
                              go_simp
                              with_reducible rfl
                            rotate_left
                            · simp only [Act.put, List.setIfInBounds_toArray, List.set_cons_zero, List.set_cons_succ, i64_w, i32_w]
                              rfl
                            refine pure_ (i := 6) (N := some 37) (v := ?_) (a' := ?_) #[true, true, true, true, true, true, true, false, false, false, false, false, false, false, false, false, false, false, false, false, false, false, false, false, false, false, false, false, false, false, false, false] rfl rfl (any_of HT_.out (by kernel_rfl)) (fun _ _ _ h => h) (Or.inl ⟨by rfl, ?_⟩) ?_ ?_
                            rotate_left
                            · intro w'
                              go_simp
                              with_reducible rfl
                            rotate_left
                            · simp only [Act.put, List.setIfInBounds_toArray, List.set_cons_zero, List.set_cons_succ, i64_w, i32_w]
                              rfl
                            refine pure_ (i := 8) (N := some 39) (v := ?_) (a' := ?_) #[true, true, true, true, true, true, true, false, true, false, false, false, false, false, false, false, false, false, false, false, false, false, false, false, false, false, false, false, false, false, false, false] rfl rfl (any_of HT_.out (by kernel_rfl)) (fun _ _ _ h => h) (Or.inl ⟨by rfl, ?_⟩) ?_ ?_
                            rotate_left
                            · intro w'
                              go_simp
                              with_reducible rfl
                            rotate_left
                            · simp only [Act.put, List.setIfInBounds_toArray, List.set_cons_zero, List.set_cons_succ, i64_w, i32_w]
                              rfl
                            refine take_ (i := 7) (N := some 38) (v := ?_) (a' := ?_) #[true, true, true, true, true, true, true, true, true, false, false, false, false, false, false, false, false, false, false, false, false, false, false, false, false, false, false, false, false, false, false, false] rfl rfl (take_ofW HT_.out HW_.out (by kernel_rfl)) (fun _ _ _ h => h) (Or.inl ⟨by rfl, ?_⟩) hHeld ?_ ?_
                            rotate_left
                            · rintro w' ⟨s0, s1, s2, s3, s4, s5, s6, s7, s8, s9, s10⟩
                              go_simp
                              with_reducible rfl
                            rotate_left
                            · simp only [Act.put, List.setIfInBounds_toArray, List.set_cons_zero, List.set_cons_succ, i64_w, i32_w]
                              rfl
                            refine take_ (i := 9) (N := some 40) (v := ?_) (a' := ?_) #[true, true, true, true, true, true, true, true, true, true, false, false, false, false, false, false, false, false, false, false, false, false, false, false, false, false, false, false, false, false, false, false] rfl rfl (take_ofW HT_.out HW_.out (by kernel_rfl)) (fun _ _ _ h => h) (Or.inl ⟨by rfl, ?_⟩) hHeld ?_ ?_
                            rotate_left
                            · rintro w' ⟨s0, s1, s2, s3, s4, s5, s6, s7, s8, s9, s10⟩
                              go_simp
                              with_reducible rfl
                            rotate_left
                            · simp only [Act.put, List.setIfInBounds_toArray, List.set_cons_zero, List.set_cons_succ, i64_w, i32_w]
                              rfl
                            refine pure_ (i := 10) (N := some 41) (v := ?_) (a' := ?_) #[true, true, true, true, true, true, true, true, true, true, true, false, false, false, false, false, false, false, false, false, false, false, false, false, false, false, false, false, false, false, false, false] rfl rfl (any_of HT_.out (by kernel_rfl)) (fun _ _ _ h => h) (Or.inl ⟨by rfl, ?_⟩) ?_ ?_
                            rotate_left
                            · intro w'
                              go_simp
                              with_reducible rfl
                            rotate_left
                            · simp only [Act.put, List.setIfInBounds_toArray, List.set_cons_zero, List.set_cons_succ, i64_w, i32_w]
                              rfl
                            refine pure_ (i := 11) (N := some 42) (v := ?_) (a' := ?_) #[true, true, true, true, true, true, true, true, true, true, true, true, false, false, false, false, false, false, false, false, false, false, false, false, false, false, false, false, false, false, false, false] rfl rfl (any_of HT_.out (by kernel_rfl)) (fun _ _ _ h => h) (Or.inl ⟨by rfl, ?_⟩) ?_ ?_
                            rotate_left
                            · intro w'
                              go_simp
                              with_reducible rfl
                            rotate_left
                            · simp only [Act.put, List.setIfInBounds_toArray, List.set_cons_zero, List.set_cons_succ, i64_w, i32_w]
                              rfl
                            refine pure_ (i := 12) (N := some 43) (v := ?_) (a' := ?_) #[true, true, true, true, true, true, true, true, true, true, true, true, true, false, false, false, false, false, false, false, false, false, false, false, false, false, false, false, false, false, false, false] rfl rfl (any_of HT_.out (by kernel_rfl)) (fun _ _ _ h => h) (Or.inl ⟨by rfl, ?_⟩) ?_ ?_
                            rotate_left
                            · intro w'
                              go_simp
                              with_reducible rfl
                            rotate_left
                            · simp only [Act.put, List.setIfInBounds_toArray, List.set_cons_zero, List.set_cons_succ, i64_w, i32_w]
                              rfl
                            refine pure_ (i := 13) (N := some 44) (v := ?_) (a' := ?_) #[true, true, true, true, true, true, true, true, true, true, true, true, true, true, false, false, false, false, false, false, false, false, false, false, false, false, false, false, false, false, false, false] rfl rfl (any_of HT_.out (by kernel_rfl)) (fun _ _ _ h => h) (Or.inl ⟨by rfl, ?_⟩) ?_ ?_
                            rotate_left
                            · intro w'
                              go_simp
                              with_reducible rfl
                            rotate_left
                            · simp only [Act.put, List.setIfInBounds_toArray, List.set_cons_zero, List.set_cons_succ, i64_w, i32_w]
                              rfl
                            refine pure_ (i := 14) (N := some 45) (v := ?_) (a' := ?_) #[true, true, true, true, true, true, true, true, true, true, true, true, true, true, true, false, false, false, false, false, false, false, false, false, false, false, false, false, false, false, false, false] rfl rfl (any_of HT_.out (by kernel_rfl)) (fun _ _ _ h => h) (Or.inl ⟨by rfl, ?_⟩) ?_ ?_
                            rotate_left
                            · intro w'
                              go_simp
                              with_reducible rfl
                            rotate_left
                            · simp only [Act.put, List.setIfInBounds_toArray, List.set_cons_zero, List.set_cons_succ, i64_w, i32_w]
                              rfl
                            refine pure_ (i := 15) (N := some 46) (v := ?_) (a' := ?_) #[true, true, true, true, true, true, true, true, true, true, true, true, true, true, true, true, false, false, false, false, false, false, false, false, false, false, false, false, false, false, false, false] rfl rfl (any_of HT_.out (by kernel_rfl)) (fun _ _ _ h => h) (Or.inl ⟨by rfl, ?_⟩) ?_ ?_
                            rotate_left
                            · intro w'
                              go_simp
                              with_reducible rfl
                            rotate_left
                            · simp only [Act.put, List.setIfInBounds_toArray, List.set_cons_zero, List.set_cons_succ, i64_w, i32_w]
                              rfl
                            refine pure_ (i := 16) (N := some 47) (v := ?_) (a' := ?_) #[true, true, true, true, true, true, true, true, true, true, true, true, true, true, true, true, true, false, false, false, false, false, false, false, false, false, false, false, false, false, false, false] rfl rfl (any_of HT_.out (by kernel_rfl)) (fun _ _ _ h => h) (Or.inl ⟨by rfl, ?_⟩) ?_ ?_
                            rotate_left
                            · intro w'
                              go_simp
                              with_reducible rfl
                            rotate_left
                            · simp only [Act.put, List.setIfInBounds_toArray, List.set_cons_zero, List.set_cons_succ, i64_w, i32_w]
                              rfl
                            refine pure_ (i := 20) (N := some 51) (v := ?_) (a' := ?_) #[true, true, true, true, true, true, true, true, true, true, true, true, true, true, true, true, true, false, false, false, true, false, false, false, false, false, false, false, false, false, false, false] rfl rfl (any_of HT_.out (by kernel_rfl)) (fun _ _ _ h => h) (Or.inl ⟨by rfl, ?_⟩) ?_ ?_
                            rotate_left
                            · intro w'
                              go_simp
                              with_reducible rfl
                            rotate_left
                            · simp only [Act.put, List.setIfInBounds_toArray, List.set_cons_zero, List.set_cons_succ, i64_w, i32_w]
                              rfl
                            refine pure_ (i := 21) (N := some 52) (v := ?_) (a' := ?_) #[true, true, true, true, true, true, true, true, true, true, true, true, true, true, true, true, true, false, false, false, true, true, false, false, false, false, false, false, false, false, false, false] rfl rfl (any_of HT_.out (by kernel_rfl)) (fun _ _ _ h => h) (Or.inl ⟨by rfl, ?_⟩) ?_ ?_
                            rotate_left
                            · intro w'
                              go_simp
                              with_reducible rfl
                            rotate_left
                            · simp only [Act.put, List.setIfInBounds_toArray, List.set_cons_zero, List.set_cons_succ, i64_w, i32_w]
                              rfl
                            refine pure_ (i := 27) (N := some 58) (v := ?_) (a' := ?_) #[true, true, true, true, true, true, true, true, true, true, true, true, true, true, true, true, true, false, false, false, true, true, false, false, false, false, false, true, false, false, false, false] rfl rfl (any_of HT_.out (by kernel_rfl)) (fun _ _ _ h => h) (Or.inl ⟨by rfl, ?_⟩) ?_ ?_
                            rotate_left
                            · intro w'
                              go_simp
                              with_reducible rfl
                            rotate_left
                            · simp only [Act.put, List.setIfInBounds_toArray, List.set_cons_zero, List.set_cons_succ, i64_w, i32_w]
                              rfl
                            refine take_ (i := 17) (N := some 48) (v := ?_) (a' := ?_) #[true, true, true, true, true, true, true, true, true, true, true, true, true, true, true, true, true, true, false, false, true, true, false, false, false, false, false, true, false, false, false, false] rfl rfl (take_ofW HT_.out HW_.out (by kernel_rfl)) (fun _ _ _ h => h) (Or.inl ⟨by rfl, ?_⟩) hHeld ?_ ?_
                            rotate_left
                            · rintro w' ⟨s0, s1, s2, s3, s4, s5, s6, s7, s8, s9, s10⟩
                              go_simp
                              with_reducible rfl
                            rotate_left
                            · simp only [Act.put, List.setIfInBounds_toArray, List.set_cons_zero, List.set_cons_succ, i64_w, i32_w]
                              rfl
                            refine pure_ (i := 18) (N := some 49) (v := ?_) (a' := ?_) #[true, true, true, true, true, true, true, true, true, true, true, true, true, true, true, true, true, true, true, false, true, true, false, false, false, false, false, true, false, false, false, false] rfl rfl (any_of HT_.out (by kernel_rfl)) (fun _ _ _ h => h) (Or.inl ⟨by rfl, ?_⟩) ?_ ?_
                            rotate_left
                            · intro w'
                              go_simp
                              with_reducible rfl
                            rotate_left
                            · simp only [Act.put, List.setIfInBounds_toArray, List.set_cons_zero, List.set_cons_succ, i64_w, i32_w]
                              rfl
                            refine take_ (i := 19) (N := some 50) (v := ?_) (a' := ?_) #[true, true, true, true, true, true, true, true, true, true, true, true, true, true, true, true, true, true, true, true, true, true, false, false, false, false, false, true, false, false, false, false] rfl rfl (take_ofW HT_.out HW_.out (by kernel_rfl)) (fun _ _ _ h => h) (Or.inl ⟨by rfl, ?_⟩) hHeld ?_ ?_
                            rotate_left
                            · rintro w' ⟨s0, s1, s2, s3, s4, s5, s6, s7, s8, s9, s10⟩
                              go_simp
                              with_reducible rfl
                            rotate_left
                            · simp only [Act.put, List.setIfInBounds_toArray, List.set_cons_zero, List.set_cons_succ, i64_w, i32_w]
                              rfl
                            refine take_ (i := 22) (N := some 53) (v := ?_) (a' := ?_) #[true, true, true, true, true, true, true, true, true, true, true, true, true, true, true, true, true, true, true, true, true, true, true, false, false, false, false, true, false, false, false, false] rfl rfl (take_ofW HT_.out HW_.out (by kernel_rfl)) (fun _ _ _ h => h) (Or.inl ⟨by rfl, ?_⟩) hHeld ?_ ?_
                            rotate_left
                            · rintro w' ⟨s0, s1, s2, s3, s4, s5, s6, s7, s8, s9, s10⟩
                              go_simp
                              with_reducible rfl
                            rotate_left
                            · simp only [Act.put, List.setIfInBounds_toArray, List.set_cons_zero, List.set_cons_succ, i64_w, i32_w]
                              rfl
                            refine pure_ (i := 23) (N := some 54) (v := ?_) (a' := ?_) #[true, true, true, true, true, true, true, true, true, true, true, true, true, true, true, true, true, true, true, true, true, true, true, true, false, false, false, true, false, false, false, false] rfl rfl (any_of HT_.out (by kernel_rfl)) (fun _ _ _ h => h) (Or.inl ⟨by rfl, ?_⟩) ?_ ?_
                            rotate_left
                            · intro w'
                              go_simp
                              with_reducible rfl
                            rotate_left
                            · simp only [Act.put, List.setIfInBounds_toArray, List.set_cons_zero, List.set_cons_succ, i64_w, i32_w]
                              rfl
                            refine take_ (i := 24) (N := some 55) (v := ?_) (a' := ?_) #[true, true, true, true, true, true, true, true, true, true, true, true, true, true, true, true, true, true, true, true, true, true, true, true, true, false, false, true, false, false, false, false] rfl rfl (take_ofW HT_.out HW_.out (by kernel_rfl)) (fun _ _ _ h => h) (Or.inl ⟨by rfl, ?_⟩) hHeld ?_ ?_
                            rotate_left
                            · rintro w' ⟨s0, s1, s2, s3, s4, s5, s6, s7, s8, s9, s10⟩
                              go_simp
                              with_reducible rfl
                            rotate_left
                            · simp only [Act.put, List.setIfInBounds_toArray, List.set_cons_zero, List.set_cons_succ, i64_w, i32_w]
                              rfl
                            refine pure_ (i := 25) (N := some 56) (v := ?_) (a' := ?_) #[true, true, true, true, true, true, true, true, true, true, true, true, true, true, true, true, true, true, true, true, true, true, true, true, true, true, false, true, false, false, false, false] rfl rfl (any_of HT_.out (by kernel_rfl)) (fun _ _ _ h => h) (Or.inl ⟨by rfl, ?_⟩) ?_ ?_
                            rotate_left
                            · intro w'
                              go_simp
                              with_reducible rfl
                            rotate_left
                            · simp only [Act.put, List.setIfInBounds_toArray, List.set_cons_zero, List.set_cons_succ, i64_w, i32_w]
                              rfl
                            refine pure_ (i := 26) (N := some 57) (v := ?_) (a' := ?_) #[true, true, true, true, true, true, true, true, true, true, true, true, true, true, true, true, true, true, true, true, true, true, true, true, true, true, true, true, false, false, false, false] rfl rfl (any_of HT_.out (by kernel_rfl)) (fun _ _ _ h => h) (Or.inl ⟨by rfl, ?_⟩) ?_ ?_
                            rotate_left
                            · intro w'
                              go_simp
                              with_reducible rfl
                            rotate_left
                            · simp only [Act.put, List.setIfInBounds_toArray, List.set_cons_zero, List.set_cons_succ, i64_w, i32_w]
                              rfl
                            refine take_ (i := 28) (N := some 59) (v := ?_) (a' := ?_) #[true, true, true, true, true, true, true, true, true, true, true, true, true, true, true, true, true, true, true, true, true, true, true, true, true, true, true, true, true, false, false, false] rfl rfl (take_ofW HT_.out HW_.out (by kernel_rfl)) (fun _ _ _ h => h) (Or.inl ⟨by rfl, ?_⟩) hHeld ?_ ?_
                            rotate_left
                            · rintro w' ⟨s0, s1, s2, s3, s4, s5, s6, s7, s8, s9, s10⟩
                              go_simp
                              with_reducible rfl
                            rotate_left
                            · simp only [Act.put, List.setIfInBounds_toArray, List.set_cons_zero, List.set_cons_succ, i64_w, i32_w]
                              rfl
                            refine one_ (i := 29) (N := some 60) #[true, true, true, true, true, true, true, true, true, true, true, true, true, true, true, true, true, true, true, true, true, true, true, true, true, true, true, true, true, true, false, false] rfl rfl (one_of HT_.out (by kernel_rfl)) (by decide) (fun K hK => ?_)
                            refine goes_ Try.func16 (by kernel_rfl) rfl #[.int .i64 (wrap64 (t228 - (wrap64 ((rd t221 ((rd_T31 t217 x19_1).f2)) - (rd t221 ((rd_T31 t217 x19_1).f1)))))), .int .i64 t213] (by rfl) rfl rfl (by (try simp only [List.map_toArray, List.map_cons, List.map_nil]); first | done | rfl | (simp only [List.length_drop, List.length_take]; rfl)) ?_
                            with_reducible refine (railplanref1_Mod.calls (wrap64 (t228 - (wrap64 ((rd t221 ((rd_T31 t217 x19_1).f2)) - (rd t221 ((rd_T31 t217 x19_1).f1)))))) t213 t231 _ A38.out).mono ?_
                            rintro e w' ⟨rfl, ⟨nd, rfl⟩⟩
                            refine ⟨_, rfl, ?_⟩
                            refine hK.out _ _ ⟨(blk_cell BK227.out 0).trans rfl, (blk_cell BK227.out 1).trans rfl, (blk_cell BK227.out 2).trans rfl, (blk_cell BK227.out 3).trans rfl, (blk_cell BK227.out 4).trans rfl, (blk_cell BK227.out 5).trans rfl, (blk_cell BK220.out 0).trans rfl, (blk_cell BK220.out 1).trans rfl, (blk_cell BK220.out 2).trans rfl, hHeld.2.2.2.2.2.2.2.2.2.1, hHeld.2.2.2.2.2.2.2.2.2.2⟩ (fun hHeld => ?_)
                            clear hK K
                            refine norm_ (a' := ?_) ?_ ?_
                            rotate_left
                            · show Act.put _ (some 60) _ = _
                              simp only [Act.put, List.setIfInBounds_toArray, List.set_cons_zero, List.set_cons_succ, i64_w, i32_w]
                              rfl
                            refine pure_ (i := 30) (N := some 61) (v := ?_) (a' := ?_) #[true, true, true, true, true, true, true, true, true, true, true, true, true, true, true, true, true, true, true, true, true, true, true, true, true, true, true, true, true, true, true, false] rfl rfl (any_of HT_.out (by kernel_rfl)) (fun _ _ _ h => h) (Or.inl ⟨by rfl, ?_⟩) ?_ ?_
                            rotate_left
                            · intro w'
                              go_simp
                              with_reducible rfl
                            rotate_left
                            · simp only [Act.put, List.setIfInBounds_toArray, List.set_cons_zero, List.set_cons_succ, i64_w, i32_w]
                              rfl
                            refine pure_ (i := 31) (N := some 62) (v := ?_) (a' := ?_) #[true, true, true, true, true, true, true, true, true, true, true, true, true, true, true, true, true, true, true, true, true, true, true, true, true, true, true, true, true, true, true, true] rfl rfl (any_of HT_.out (by kernel_rfl)) (fun _ _ _ h => h) (Or.inl ⟨by rfl, ?_⟩) ?_ ?_
                            rotate_left
                            · intro w'
                              go_simp
                              with_reducible rfl
                            rotate_left
                            · simp only [Act.put, List.setIfInBounds_toArray, List.set_cons_zero, List.set_cons_succ, i64_w, i32_w]
                              rfl
                            refine done_ (done_of HT_.out (by kernel_rfl)) ?_
                            try go_wp2
                            go_roundg k1
                            case measure => have := HK1.out; omega
                            case rel => exact ⟨(false), (wrap64 (x19_1 + 1)), (by first | rfl | (simp; done) | (simp [*]; done)), (by first | rfl | (simp; done) | (simp [*]; done)), H', ⟨by have := HK1.out; omega⟩, ⟨by (with_reducible repeat (first | apply Kd.R_alloc | apply Kd.R_drewN | apply Kd.R_drew)); exact HO_6.out⟩, ⟨by (with_reducible repeat (first | apply Kd.R_alloc | apply Kd.R_drewN | apply Kd.R_drew)); exact HO_221001.out⟩, ⟨by (with_reducible repeat (first | apply Kd.R_alloc | apply Kd.R_drewN | apply Kd.R_drew)); exact Kd.R_mono HO_221002.out (fun _ hk => trivial)⟩, ⟨by (with_reducible repeat (first | refine blk_drewN ?_ _ | refine blk_drew ?_ | refine blk_alloc ?_ _)); exact BK220.out⟩, ⟨by repeat (first | (with_reducible first | exact HB.out | apply below_alloc | apply pw_below_drewN | apply below_drew1 | refine below_set ?_ GE220.out | refine below_set ?_ GE227.out) | exact HB.out)⟩⟩
                        · rw [if_neg c39] at H
                          have c39b0 : (t231 == 0) = false := beq_eq_false_iff_ne.mpr c39
                          have c39b1 : (t231 != 0) = true := bne_iff_ne.mpr c39
                          obtain rfl := Option.some.inj H
                          have hcz58_0 : wr.cell? ⟨gb220, 0, none⟩ = some (.int .i64 t213) := (blk_cell BK220.out 0).trans rfl
                          have hcz58_1 : wr.cell? ⟨gb220, 1, none⟩ = some (.slice Ao8 t214.length co8) := (blk_cell BK220.out 1).trans rfl
                          have hcz58_2 : wr.cell? ⟨gb220, 2, none⟩ = some (.slice Ao9 t217.length co9) := (blk_cell BK220.out 2).trans rfl
                          have hfz58_0 := blk_frozen BK220.out 0
                          have hfz58_1 := blk_frozen BK220.out 1
                          have hfz58_2 := blk_frozen BK220.out 2
                          have p226 : 0 ≤ (x19_1 : Int) := of_decide_eq_true (by first | (with_reducible assumption) | assumption)
                          have q226 : x19_1 < (t217.length : Int) := of_decide_eq_true (by first | (with_reducible assumption) | assumption)
                          obtain ⟨ad226, e226, hx226_0, hx226_1, hx226_2, hx226_3, hx226_4, hx226_5⟩ := at_T31 (Kd.R_reads' HO_221002.out).2.2 x19_1 p226 q226
                          cases e226
                          replace p226 := eq_true p226
                          replace q226 := eq_true q226
                          try go_wp2_with (first | ((with_reducible refine gate_dst (N := 9) rfl ?_); refine box_event ?hg (N := 9) ?hd (cs := #[.int .i64 0, .int .i64 0, .int .i64 0, .int .i64 0, .int .i64 0, .int .i64 0]) (t := 31) ?hr ?_; (case hd => rfl); (case hg => rfl); (case hr => first | (go_simp; done) | (go_simp; rfl)); intro gb227 hg w59 hbox hb; have n0_ := Aside0.mk (Kd.R_below (by (with_reducible repeat (first | apply Kd.R_alloc | apply Kd.R_drewN | apply Kd.R_drew)); exact HO_6.out) hb); have n1_ := Aside0.mk (Kd.R_below (by (with_reducible repeat (first | apply Kd.R_alloc | apply Kd.R_drewN | apply Kd.R_drew)); exact HO_221001.out) hb); have n2_ := Aside0.mk (Kd.R_below (Kd.R_elderB (by (with_reducible repeat (first | apply Kd.R_alloc | apply Kd.R_drewN | apply Kd.R_drew)); exact HO_221002.out) gb227 (Nat.le_of_eq hg.symm)) hb); have n3_ := Aside0.mk (blk_below (g := gb220) (o := .cells #[.int .i64 t213, .slice Ao8 t214.length co8, .slice (some ad226) t217.length co9] 26 (0, 0)) (by (with_reducible repeat (first | refine blk_drewN ?_ _ | refine blk_drew ?_ | refine blk_alloc ?_ _)); exact BK220.out) hb); have n4_ := Aside0.mk (below_step (by repeat (first | (with_reducible first | exact HB.out | apply below_alloc | apply pw_below_drewN | apply below_drew1 | refine below_set ?_ GE220.out) | exact HB.out)) hb); have n5_ := Aside0.mk (hbox); have n6_ := Aside0.mk ((by rw [hg]; exact (below_size (by repeat (first | (with_reducible first | exact HB.out | apply below_alloc | apply pw_below_drewN | apply below_drew1 | refine below_set ?_ GE220.out) | exact HB.out))) : w.heap.size ≤ gb227)); have n7_ := Aside0.mk ((by rw [hg]; exact (below_size (by repeat (first | (with_reducible first | exact HB.out | apply below_alloc | apply pw_below_drewN | apply below_drew1 | refine below_set ?_ GE220.out) | exact HB.out))) : w.heap.size ≤ gb227)); have n8_ := Aside0.mk ((by rw [hg]; exact Nat.ne_of_lt (blk_lt (g := gb220) (o := .cells #[.int .i64 t213, .slice Ao8 t214.length co8, .slice (some ad226) t217.length co9] 26 (0, 0)) (by (with_reducible repeat (first | refine blk_drewN ?_ _ | refine blk_drew ?_ | refine blk_alloc ?_ _)); exact BK220.out)) : gb220 ≠ gb227)); have n9_ := Aside0.mk ((by rw [hg]; exact Nat.ne_of_gt (blk_lt (g := gb220) (o := .cells #[.int .i64 t213, .slice Ao8 t214.length co8, .slice (some ad226) t217.length co9] 26 (0, 0)) (by (with_reducible repeat (first | refine blk_drewN ?_ _ | refine blk_drew ?_ | refine blk_alloc ?_ _)); exact BK220.out)) : gb227 ≠ gb220)); clear HO_6; clear HO_221001; clear HO_221002; clear BK220; clear HB; have HO_6 := n0_; have HO_221001 := n1_; have HO_221002 := n2_; have BK220 := n3_; have HB := n4_; have BK227 := n5_; have GW227 := n6_; have GE227 := n7_; have NB220_227 := n8_; have NB227_220 := n9_; clear n0_ n1_ n2_ n3_ n4_ n5_ n6_ n7_ n8_ n9_; clear hb hbox hg; have hnb60 := NB227_220.out; have hnc60 := NB220_227.out; have hcz61_0 : w59.cell? ⟨gb227, 0, none⟩ = some (.int .i64 0) := (blk_cell BK227.out 0).trans rfl; have hcz61_1 : w59.cell? ⟨gb227, 1, none⟩ = some (.int .i64 0) := (blk_cell BK227.out 1).trans rfl; have hcz61_2 : w59.cell? ⟨gb227, 2, none⟩ = some (.int .i64 0) := (blk_cell BK227.out 2).trans rfl; have hcz61_3 : w59.cell? ⟨gb227, 3, none⟩ = some (.int .i64 0) := (blk_cell BK227.out 3).trans rfl; have hcz61_4 : w59.cell? ⟨gb227, 4, none⟩ = some (.int .i64 0) := (blk_cell BK227.out 4).trans rfl; have hcz61_5 : w59.cell? ⟨gb227, 5, none⟩ = some (.int .i64 0) := (blk_cell BK227.out 5).trans rfl; have hfz61_0 := blk_frozen BK227.out 0; have hfz61_1 := blk_frozen BK227.out 1; have hfz61_2 := blk_frozen BK227.out 2; have hfz61_3 := blk_frozen BK227.out 3; have hfz61_4 := blk_frozen BK227.out 4; have hfz61_5 := blk_frozen BK227.out 5; have hcz62_0 : w59.cell? ⟨gb220, 0, none⟩ = some (.int .i64 t213) := (blk_cell BK220.out 0).trans rfl; have hcz62_1 : w59.cell? ⟨gb220, 1, none⟩ = some (.slice Ao8 t214.length co8) := (blk_cell BK220.out 1).trans rfl; have hcz62_2 : w59.cell? ⟨gb220, 2, none⟩ = some (.slice (some ad226) t217.length co9) := (blk_cell BK220.out 2).trans rfl; have hfz62_0 := blk_frozen BK220.out 0; have hfz62_1 := blk_frozen BK220.out 1; have hfz62_2 := blk_frozen BK220.out 2; obtain ⟨Ao63, co63, eo63⟩ := Kd.R_slice HO_6.out; subst eo63) | ((with_reducible refine gate_callee (f := 15) rfl ?_); refine goesL_ (some 30) rfl rfl Try.func15 (by kernel_rfl) rfl #[.agg #[.int .i64 t213, .slice Ao8 t214.length co8, .slice (some ad226) t217.length co9], .slice Ao63 t221.length co63, .int .i64 x19_1] rfl (by (try simp only [List.map_toArray, List.map_cons, List.map_nil]); first | done | rfl | (simp only [List.length_drop, List.length_take]; rfl)) ?_; (with_reducible refine (network_Duration.calls t213 _ _ t214 _ _ t217 _ _ t221 x19_1 t228 _ ?side1 ?side2 ?side3 ?side4 ?side5 ?side6 A15.out).mono ?_); (case side1 => refine (Kd.R_reads' (e := 46) (base := w.heap.size) (ok := fun k_ => True) (n := t214.length) (c := co8) ?_).2.2; exact (by (with_reducible repeat (first | apply Kd.R_alloc | apply Kd.R_drewN | apply Kd.R_drew)); exact (Kd.R_mono (Kd.R_far (p := ⟨gb227, 5, none⟩) (Kd.R_far (p := ⟨gb227, 4, none⟩) (Kd.R_far (p := ⟨gb227, 3, none⟩) (Kd.R_far (p := ⟨gb227, 2, none⟩) (Kd.R_far (p := ⟨gb227, 1, none⟩) (Kd.R_far (p := ⟨gb227, 0, none⟩) (Kd.R_types HO_221001.out BK227.out (by decide)) (fun _ hk => hk.2) (.int .i64 ((rd_T31 t217 x19_1).f0))) (fun _ hk => hk.2) (.int .i64 ((rd_T31 t217 x19_1).f1))) (fun _ hk => hk.2) (.int .i64 ((rd_T31 t217 x19_1).f2))) (fun _ hk => hk.2) (.int .i64 ((rd_T31 t217 x19_1).f3))) (fun _ hk => hk.2) (.int .i64 ((rd_T31 t217 x19_1).f4))) (fun _ hk => hk.2) (.int .i64 ((rd_T31 t217 x19_1).f5))) (fun _ h_ => h_.1)))); (case side2 => exact (Kd.R_reads' HO_221001.out).2.1); (case side3 => refine (Kd.R_reads' (e := 31) (base := w.heap.size) (ok := fun k_ => (True ∧ k_ ≠ gb227)) (n := t217.length) (c := co9) ?_).2.2; exact (by (with_reducible repeat (first | apply Kd.R_alloc | apply Kd.R_drewN | apply Kd.R_drew)); exact (Kd.R_mono (Kd.R_far (p := ⟨gb227, 5, none⟩) (Kd.R_far (p := ⟨gb227, 4, none⟩) (Kd.R_far (p := ⟨gb227, 3, none⟩) (Kd.R_far (p := ⟨gb227, 2, none⟩) (Kd.R_far (p := ⟨gb227, 1, none⟩) (Kd.R_far (p := ⟨gb227, 0, none⟩) (Kd.R_mono HO_221002.out (fun k_ hk => (⟨hk, hk.2⟩ : _ ∧ k_ ≠ gb227))) (fun _ hk => hk.2) (.int .i64 ((rd_T31 t217 x19_1).f0))) (fun _ hk => hk.2) (.int .i64 ((rd_T31 t217 x19_1).f1))) (fun _ hk => hk.2) (.int .i64 ((rd_T31 t217 x19_1).f2))) (fun _ hk => hk.2) (.int .i64 ((rd_T31 t217 x19_1).f3))) (fun _ hk => hk.2) (.int .i64 ((rd_T31 t217 x19_1).f4))) (fun _ hk => hk.2) (.int .i64 ((rd_T31 t217 x19_1).f5))) (fun _ h_ => h_.1)))); (case side4 => exact (Kd.R_reads' HO_221002.out).2.1); (case side5 => refine (Kd.R_reads' (e := 3) (base := w.heap.size) (ok := fun k_ => True) (n := t221.length) (c := co63) ?_).2.2; exact (by (with_reducible repeat (first | apply Kd.R_alloc | apply Kd.R_drewN | apply Kd.R_drew)); exact (Kd.R_mono (Kd.R_far (p := ⟨gb227, 5, none⟩) (Kd.R_far (p := ⟨gb227, 4, none⟩) (Kd.R_far (p := ⟨gb227, 3, none⟩) (Kd.R_far (p := ⟨gb227, 2, none⟩) (Kd.R_far (p := ⟨gb227, 1, none⟩) (Kd.R_far (p := ⟨gb227, 0, none⟩) (Kd.R_types HO_6.out BK227.out (by decide)) (fun _ hk => hk.2) (.int .i64 ((rd_T31 t217 x19_1).f0))) (fun _ hk => hk.2) (.int .i64 ((rd_T31 t217 x19_1).f1))) (fun _ hk => hk.2) (.int .i64 ((rd_T31 t217 x19_1).f2))) (fun _ hk => hk.2) (.int .i64 ((rd_T31 t217 x19_1).f3))) (fun _ hk => hk.2) (.int .i64 ((rd_T31 t217 x19_1).f4))) (fun _ hk => hk.2) (.int .i64 ((rd_T31 t217 x19_1).f5))) (fun _ h_ => h_.1)))); (case side6 => exact (Kd.R_reads' HO_6.out).2.1); rintro e w64 ⟨rfl, hb⟩; refine ⟨_, rfl, ?_⟩; have n0_ := Aside0.mk (Kd.R_below (by (with_reducible repeat (first | apply Kd.R_alloc | apply Kd.R_drewN | apply Kd.R_drew)); exact (Kd.R_mono (Kd.R_far (p := ⟨gb227, 5, none⟩) (Kd.R_far (p := ⟨gb227, 4, none⟩) (Kd.R_far (p := ⟨gb227, 3, none⟩) (Kd.R_far (p := ⟨gb227, 2, none⟩) (Kd.R_far (p := ⟨gb227, 1, none⟩) (Kd.R_far (p := ⟨gb227, 0, none⟩) (Kd.R_types HO_6.out BK227.out (by decide)) (fun _ hk => hk.2) (.int .i64 ((rd_T31 t217 x19_1).f0))) (fun _ hk => hk.2) (.int .i64 ((rd_T31 t217 x19_1).f1))) (fun _ hk => hk.2) (.int .i64 ((rd_T31 t217 x19_1).f2))) (fun _ hk => hk.2) (.int .i64 ((rd_T31 t217 x19_1).f3))) (fun _ hk => hk.2) (.int .i64 ((rd_T31 t217 x19_1).f4))) (fun _ hk => hk.2) (.int .i64 ((rd_T31 t217 x19_1).f5))) (fun _ h_ => h_.1))) hb); have n1_ := Aside0.mk (Kd.R_below (by (with_reducible repeat (first | apply Kd.R_alloc | apply Kd.R_drewN | apply Kd.R_drew)); exact (Kd.R_mono (Kd.R_far (p := ⟨gb227, 5, none⟩) (Kd.R_far (p := ⟨gb227, 4, none⟩) (Kd.R_far (p := ⟨gb227, 3, none⟩) (Kd.R_far (p := ⟨gb227, 2, none⟩) (Kd.R_far (p := ⟨gb227, 1, none⟩) (Kd.R_far (p := ⟨gb227, 0, none⟩) (Kd.R_types HO_221001.out BK227.out (by decide)) (fun _ hk => hk.2) (.int .i64 ((rd_T31 t217 x19_1).f0))) (fun _ hk => hk.2) (.int .i64 ((rd_T31 t217 x19_1).f1))) (fun _ hk => hk.2) (.int .i64 ((rd_T31 t217 x19_1).f2))) (fun _ hk => hk.2) (.int .i64 ((rd_T31 t217 x19_1).f3))) (fun _ hk => hk.2) (.int .i64 ((rd_T31 t217 x19_1).f4))) (fun _ hk => hk.2) (.int .i64 ((rd_T31 t217 x19_1).f5))) (fun _ h_ => h_.1))) hb); have n2_ := Aside0.mk (Kd.R_below (by (with_reducible repeat (first | apply Kd.R_alloc | apply Kd.R_drewN | apply Kd.R_drew)); exact (Kd.R_mono (Kd.R_far (p := ⟨gb227, 5, none⟩) (Kd.R_far (p := ⟨gb227, 4, none⟩) (Kd.R_far (p := ⟨gb227, 3, none⟩) (Kd.R_far (p := ⟨gb227, 2, none⟩) (Kd.R_far (p := ⟨gb227, 1, none⟩) (Kd.R_far (p := ⟨gb227, 0, none⟩) (Kd.R_mono HO_221002.out (fun k_ hk => (⟨hk, hk.2⟩ : _ ∧ k_ ≠ gb227))) (fun _ hk => hk.2) (.int .i64 ((rd_T31 t217 x19_1).f0))) (fun _ hk => hk.2) (.int .i64 ((rd_T31 t217 x19_1).f1))) (fun _ hk => hk.2) (.int .i64 ((rd_T31 t217 x19_1).f2))) (fun _ hk => hk.2) (.int .i64 ((rd_T31 t217 x19_1).f3))) (fun _ hk => hk.2) (.int .i64 ((rd_T31 t217 x19_1).f4))) (fun _ hk => hk.2) (.int .i64 ((rd_T31 t217 x19_1).f5))) (fun _ h_ => h_.1))) hb); have n3_ := Aside0.mk (blk_below (g := gb220) (o := .cells #[.int .i64 t213, .slice Ao8 t214.length co8, .slice (some ad226) t217.length co9] 26 (0, 0)) (by (with_reducible repeat (first | refine blk_drewN ?_ _ | refine blk_drew ?_ | refine blk_alloc ?_ _)); refine blk_far ?_ NB220_227.out _; (with_reducible repeat (first | refine blk_drewN ?_ _ | refine blk_drew ?_ | refine blk_alloc ?_ _)); refine blk_far ?_ NB220_227.out _; (with_reducible repeat (first | refine blk_drewN ?_ _ | refine blk_drew ?_ | refine blk_alloc ?_ _)); refine blk_far ?_ NB220_227.out _; (with_reducible repeat (first | refine blk_drewN ?_ _ | refine blk_drew ?_ | refine blk_alloc ?_ _)); refine blk_far ?_ NB220_227.out _; (with_reducible repeat (first | refine blk_drewN ?_ _ | refine blk_drew ?_ | refine blk_alloc ?_ _)); refine blk_far ?_ NB220_227.out _; (with_reducible repeat (first | refine blk_drewN ?_ _ | refine blk_drew ?_ | refine blk_alloc ?_ _)); refine blk_far ?_ NB220_227.out _; (with_reducible repeat (first | refine blk_drewN ?_ _ | refine blk_drew ?_ | refine blk_alloc ?_ _)); exact BK220.out) hb); have n4_ := Aside0.mk (blk_below (g := gb227) (o := .cells #[.int .i64 ((rd_T31 t217 x19_1).f0), .int .i64 ((rd_T31 t217 x19_1).f1), .int .i64 ((rd_T31 t217 x19_1).f2), .int .i64 ((rd_T31 t217 x19_1).f3), .int .i64 ((rd_T31 t217 x19_1).f4), .int .i64 ((rd_T31 t217 x19_1).f5)] 31 (0, 0)) (by (with_reducible repeat (first | refine blk_drewN ?_ _ | refine blk_drew ?_ | refine blk_alloc ?_ _)); refine blk_put (cs := #[.int .i64 ((rd_T31 t217 x19_1).f0), .int .i64 ((rd_T31 t217 x19_1).f1), .int .i64 ((rd_T31 t217 x19_1).f2), .int .i64 ((rd_T31 t217 x19_1).f3), .int .i64 ((rd_T31 t217 x19_1).f4), .int .i64 0]) ?_ 5 _ rfl; (with_reducible repeat (first | refine blk_drewN ?_ _ | refine blk_drew ?_ | refine blk_alloc ?_ _)); refine blk_put (cs := #[.int .i64 ((rd_T31 t217 x19_1).f0), .int .i64 ((rd_T31 t217 x19_1).f1), .int .i64 ((rd_T31 t217 x19_1).f2), .int .i64 ((rd_T31 t217 x19_1).f3), .int .i64 0, .int .i64 0]) ?_ 4 _ rfl; (with_reducible repeat (first | refine blk_drewN ?_ _ | refine blk_drew ?_ | refine blk_alloc ?_ _)); refine blk_put (cs := #[.int .i64 ((rd_T31 t217 x19_1).f0), .int .i64 ((rd_T31 t217 x19_1).f1), .int .i64 ((rd_T31 t217 x19_1).f2), .int .i64 0, .int .i64 0, .int .i64 0]) ?_ 3 _ rfl; (with_reducible repeat (first | refine blk_drewN ?_ _ | refine blk_drew ?_ | refine blk_alloc ?_ _)); refine blk_put (cs := #[.int .i64 ((rd_T31 t217 x19_1).f0), .int .i64 ((rd_T31 t217 x19_1).f1), .int .i64 0, .int .i64 0, .int .i64 0, .int .i64 0]) ?_ 2 _ rfl; (with_reducible repeat (first | refine blk_drewN ?_ _ | refine blk_drew ?_ | refine blk_alloc ?_ _)); refine blk_put (cs := #[.int .i64 ((rd_T31 t217 x19_1).f0), .int .i64 0, .int .i64 0, .int .i64 0, .int .i64 0, .int .i64 0]) ?_ 1 _ rfl; (with_reducible repeat (first | refine blk_drewN ?_ _ | refine blk_drew ?_ | refine blk_alloc ?_ _)); refine blk_put (cs := #[.int .i64 0, .int .i64 0, .int .i64 0, .int .i64 0, .int .i64 0, .int .i64 0]) ?_ 0 _ rfl; (with_reducible repeat (first | refine blk_drewN ?_ _ | refine blk_drew ?_ | refine blk_alloc ?_ _)); exact BK227.out) hb); have n5_ := Aside0.mk (below_step (by repeat (first | (with_reducible first | exact HB.out | apply below_alloc | apply pw_below_drewN | apply below_drew1 | refine below_set ?_ GE220.out | refine below_set ?_ GE227.out) | exact HB.out)) hb); clear HO_6; clear HO_221001; clear HO_221002; clear BK220; clear BK227; clear HB; have HO_6 := n0_; have HO_221001 := n1_; have HO_221002 := n2_; have BK220 := n3_; have BK227 := n4_; have HB := n5_; clear n0_ n1_ n2_ n3_ n4_ n5_; (try clear hb); (try clear hb2); (try clear hk); (try clear hi)))
                          have n0_ := Aside0.mk (Kd.R_drew HO_6.out)
                          have n1_ := Aside0.mk (Kd.R_drew HO_221001.out)
                          have n2_ := Aside0.mk (Kd.R_drew HO_221002.out)
                          have n3_ := Aside0.mk (blk_drew BK220.out)
                          have n4_ := Aside0.mk (blk_drew BK227.out)
                          have n5_ := Aside0.mk (below_drew1 HB.out)
                          clear HO_6
                          clear HO_221001
                          clear HO_221002
                          clear BK220
                          clear BK227
                          clear HB
                          have HO_6 := n0_
                          have HO_221001 := n1_
                          have HO_221002 := n2_
                          have BK220 := n3_
                          have BK227 := n4_
                          have HB := n5_
                          clear n0_ n1_ n2_ n3_ n4_ n5_
                          have p229 : 0 ≤ (((rd_T31 t217 x19_1).f2) : Int) := of_decide_eq_true (by first | (with_reducible assumption) | assumption)
                          have q229 : ((rd_T31 t217 x19_1).f2) < (t221.length : Int) := of_decide_eq_true (by first | (with_reducible assumption) | assumption)
                          obtain ⟨ad229, e229, hx229_0⟩ := Kd.at_int (Kd.R_reads' HO_6.out).2.2 ((rd_T31 t217 x19_1).f2) p229 q229
                          cases e229
                          replace p229 := eq_true p229
                          replace q229 := eq_true q229
                          have p230 : 0 ≤ (((rd_T31 t217 x19_1).f1) : Int) := of_decide_eq_true (by first | (with_reducible assumption) | assumption)
                          have q230 : ((rd_T31 t217 x19_1).f1) < (t221.length : Int) := of_decide_eq_true (by first | (with_reducible assumption) | assumption)
                          obtain ⟨ad230, e230, hx230_0⟩ := Kd.at_int (Kd.R_reads' HO_6.out).2.2 ((rd_T31 t217 x19_1).f1) p230 q230
                          obtain rfl : ad229 = ad230 := (by injection e230)
                          replace p230 := eq_true p230
                          replace q230 := eq_true q230
                          refine start_ (n := 32) (S := fun w' => w'.cell? ⟨gb227, 0, none⟩ = some (.int .i64 ((rd_T31 t217 x19_1).f0)) ∧ w'.cell? ⟨gb227, 1, none⟩ = some (.int .i64 ((rd_T31 t217 x19_1).f1)) ∧ w'.cell? ⟨gb227, 2, none⟩ = some (.int .i64 ((rd_T31 t217 x19_1).f2)) ∧ w'.cell? ⟨gb227, 3, none⟩ = some (.int .i64 ((rd_T31 t217 x19_1).f3)) ∧ w'.cell? ⟨gb227, 4, none⟩ = some (.int .i64 ((rd_T31 t217 x19_1).f4)) ∧ w'.cell? ⟨gb227, 5, none⟩ = some (.int .i64 ((rd_T31 t217 x19_1).f5)) ∧ w'.cell? ⟨gb220, 0, none⟩ = some (.int .i64 t213) ∧ w'.cell? ⟨gb220, 1, none⟩ = some (.slice Ao8 t214.length co8) ∧ w'.cell? ⟨gb220, 2, none⟩ = some (.slice (some ad226) t217.length co9) ∧ w'.cell? (ad229.add (((rd_T31 t217 x19_1).f2)).toNat) = some (.int .i64 (rd t221 ((rd_T31 t217 x19_1).f2))) ∧ w'.cell? (ad229.add (((rd_T31 t217 x19_1).f1)).toNat) = some (.int .i64 (rd t221 ((rd_T31 t217 x19_1).f1)))) (ds := []) #[false, false, false, false, false, false, false, false, false, false, false, false, false, false, false, false, false, false, false, false, false, false, false, false, false, false, false, false, false, false, false, false] (by kernel_rfl) rfl rfl ⟨(blk_cell BK227.out 0).trans rfl, (blk_cell BK227.out 1).trans rfl, (blk_cell BK227.out 2).trans rfl, (blk_cell BK227.out 3).trans rfl, (blk_cell BK227.out 4).trans rfl, (blk_cell BK227.out 5).trans rfl, (blk_cell BK220.out 0).trans rfl, (blk_cell BK220.out 1).trans rfl, (blk_cell BK220.out 2).trans rfl, hx229_0, hx230_0⟩ (fun hHeld => ?_); refine with_tabW railplanlaw11_NetworkDurations.tab9 railplanlaw11_NetworkDurations.bits9 (fun HT_ HW_ => ?_)
                          generalize w64.drew = w65 at HO_6 HO_221001 HO_221002 BK220 BK227 HB hx229_0 hx230_0 hHeld ⊢
                          refine pure_ (i := 0) (N := some 31) (v := ?_) (a' := ?_) #[true, false, false, false, false, false, false, false, false, false, false, false, false, false, false, false, false, false, false, false, false, false, false, false, false, false, false, false, false, false, false, false] rfl rfl (any_of HT_.out (by kernel_rfl)) (fun _ _ _ h => h) (Or.inl ⟨by rfl, ?_⟩) ?_ ?_
                          rotate_left
                          · intro w'
                            go_simp
                            with_reducible rfl
                          rotate_left
                          · simp only [Act.put, List.setIfInBounds_toArray, List.set_cons_zero, List.set_cons_succ, i64_w, i32_w]
                            rfl
                          refine pure_ (i := 1) (N := some 32) (v := ?_) (a' := ?_) #[true, true, false, false, false, false, false, false, false, false, false, false, false, false, false, false, false, false, false, false, false, false, false, false, false, false, false, false, false, false, false, false] rfl rfl (any_of HT_.out (by kernel_rfl)) (fun _ _ _ h => h) (Or.inl ⟨by rfl, ?_⟩) ?_ ?_
                          rotate_left
                          · intro w'
                            go_simp
                            with_reducible rfl
                          rotate_left
                          · simp only [Act.put, List.setIfInBounds_toArray, List.set_cons_zero, List.set_cons_succ, i64_w, i32_w]
                            rfl
                          refine take_ (i := 2) (N := some 33) (v := ?_) (a' := ?_) #[true, true, true, false, false, false, false, false, false, false, false, false, false, false, false, false, false, false, false, false, false, false, false, false, false, false, false, false, false, false, false, false] rfl rfl (take_ofW HT_.out HW_.out (by kernel_rfl)) (fun _ _ _ h => h) (Or.inl ⟨by rfl, ?_⟩) hHeld ?_ ?_
                          rotate_left
                          · rintro w' ⟨s0, s1, s2, s3, s4, s5, s6, s7, s8, s9, s10⟩
                            go_simp
                            with_reducible rfl
                          rotate_left
                          · simp only [Act.put, List.setIfInBounds_toArray, List.set_cons_zero, List.set_cons_succ, i64_w, i32_w]
                            rfl
                          refine pure_ (i := 3) (N := some 34) (v := ?_) (a' := ?_) #[true, true, true, true, false, false, false, false, false, false, false, false, false, false, false, false, false, false, false, false, false, false, false, false, false, false, false, false, false, false, false, false] rfl rfl (any_of HT_.out (by kernel_rfl)) (fun _ _ _ h => h) (Or.inl ⟨by rfl, ?_⟩) ?_ ?_
                          rotate_left
                          · intro w'
                            go_simp
                            with_reducible rfl
                          rotate_left
                          · simp only [Act.put, List.setIfInBounds_toArray, List.set_cons_zero, List.set_cons_succ, i64_w, i32_w]
                            rfl
                          refine pure_ (i := 4) (N := some 35) (v := ?_) (a' := ?_) #[true, true, true, true, true, false, false, false, false, false, false, false, false, false, false, false, false, false, false, false, false, false, false, false, false, false, false, false, false, false, false, false] rfl rfl (any_of HT_.out (by kernel_rfl)) (fun _ _ _ h => h) (Or.inl ⟨by rfl, ?_⟩) ?_ ?_
                          rotate_left
                          · intro w'
                            go_simp
                            with_reducible rfl
                          rotate_left
                          · simp only [Act.put, List.setIfInBounds_toArray, List.set_cons_zero, List.set_cons_succ, i64_w, i32_w]
                            rfl
                          refine pure_ (i := 5) (N := some 36) (v := ?_) (a' := ?_) #[true, true, true, true, true, true, false, false, false, false, false, false, false, false, false, false, false, false, false, false, false, false, false, false, false, false, false, false, false, false, false, false] rfl rfl (any_of HT_.out (by kernel_rfl)) (fun _ _ _ h => h) (Or.inl ⟨by rfl, ?_⟩) ?_ ?_
                          rotate_left
                          · intro w'
                            go_simp
                            with_reducible rfl
                          rotate_left
                          · simp only [Act.put, List.setIfInBounds_toArray, List.set_cons_zero, List.set_cons_succ, i64_w, i32_w]
                            rfl
                          refine pure_ (i := 6) (N := some 37) (v := ?_) (a' := ?_) #[true, true, true, true, true, true, true, false, false, false, false, false, false, false, false, false, false, false, false, false, false, false, false, false, false, false, false, false, false, false, false, false] rfl rfl (any_of HT_.out (by kernel_rfl)) (fun _ _ _ h => h) (Or.inl ⟨by rfl, ?_⟩) ?_ ?_
                          rotate_left
                          · intro w'
                            go_simp
                            with_reducible rfl
                          rotate_left
                          · simp only [Act.put, List.setIfInBounds_toArray, List.set_cons_zero, List.set_cons_succ, i64_w, i32_w]
                            rfl
                          refine pure_ (i := 8) (N := some 39) (v := ?_) (a' := ?_) #[true, true, true, true, true, true, true, false, true, false, false, false, false, false, false, false, false, false, false, false, false, false, false, false, false, false, false, false, false, false, false, false] rfl rfl (any_of HT_.out (by kernel_rfl)) (fun _ _ _ h => h) (Or.inl ⟨by rfl, ?_⟩) ?_ ?_
                          rotate_left
                          · intro w'
                            go_simp
                            with_reducible rfl
                          rotate_left
                          · simp only [Act.put, List.setIfInBounds_toArray, List.set_cons_zero, List.set_cons_succ, i64_w, i32_w]
                            rfl
                          refine take_ (i := 7) (N := some 38) (v := ?_) (a' := ?_) #[true, true, true, true, true, true, true, true, true, false, false, false, false, false, false, false, false, false, false, false, false, false, false, false, false, false, false, false, false, false, false, false] rfl rfl (take_ofW HT_.out HW_.out (by kernel_rfl)) (fun _ _ _ h => h) (Or.inl ⟨by rfl, ?_⟩) hHeld ?_ ?_
                          rotate_left
                          · rintro w' ⟨s0, s1, s2, s3, s4, s5, s6, s7, s8, s9, s10⟩
                            go_simp
                            with_reducible rfl
                          rotate_left
                          · simp only [Act.put, List.setIfInBounds_toArray, List.set_cons_zero, List.set_cons_succ, i64_w, i32_w]
                            rfl
                          refine take_ (i := 9) (N := some 40) (v := ?_) (a' := ?_) #[true, true, true, true, true, true, true, true, true, true, false, false, false, false, false, false, false, false, false, false, false, false, false, false, false, false, false, false, false, false, false, false] rfl rfl (take_ofW HT_.out HW_.out (by kernel_rfl)) (fun _ _ _ h => h) (Or.inl ⟨by rfl, ?_⟩) hHeld ?_ ?_
                          rotate_left
                          · rintro w' ⟨s0, s1, s2, s3, s4, s5, s6, s7, s8, s9, s10⟩
                            go_simp
                            with_reducible rfl
                          rotate_left
                          · simp only [Act.put, List.setIfInBounds_toArray, List.set_cons_zero, List.set_cons_succ, i64_w, i32_w]
                            rfl
                          refine pure_ (i := 10) (N := some 41) (v := ?_) (a' := ?_) #[true, true, true, true, true, true, true, true, true, true, true, false, false, false, false, false, false, false, false, false, false, false, false, false, false, false, false, false, false, false, false, false] rfl rfl (any_of HT_.out (by kernel_rfl)) (fun _ _ _ h => h) (Or.inl ⟨by rfl, ?_⟩) ?_ ?_
                          rotate_left
                          · intro w'
                            go_simp
                            with_reducible rfl
                          rotate_left
                          · simp only [Act.put, List.setIfInBounds_toArray, List.set_cons_zero, List.set_cons_succ, i64_w, i32_w]
                            rfl
                          refine pure_ (i := 11) (N := some 42) (v := ?_) (a' := ?_) #[true, true, true, true, true, true, true, true, true, true, true, true, false, false, false, false, false, false, false, false, false, false, false, false, false, false, false, false, false, false, false, false] rfl rfl (any_of HT_.out (by kernel_rfl)) (fun _ _ _ h => h) (Or.inl ⟨by rfl, ?_⟩) ?_ ?_
                          rotate_left
                          · intro w'
                            go_simp
                            with_reducible rfl
                          rotate_left
                          · simp only [Act.put, List.setIfInBounds_toArray, List.set_cons_zero, List.set_cons_succ, i64_w, i32_w]
                            rfl
                          refine pure_ (i := 12) (N := some 43) (v := ?_) (a' := ?_) #[true, true, true, true, true, true, true, true, true, true, true, true, true, false, false, false, false, false, false, false, false, false, false, false, false, false, false, false, false, false, false, false] rfl rfl (any_of HT_.out (by kernel_rfl)) (fun _ _ _ h => h) (Or.inl ⟨by rfl, ?_⟩) ?_ ?_
                          rotate_left
                          · intro w'
                            go_simp
                            with_reducible rfl
                          rotate_left
                          · simp only [Act.put, List.setIfInBounds_toArray, List.set_cons_zero, List.set_cons_succ, i64_w, i32_w]
                            rfl
                          refine pure_ (i := 13) (N := some 44) (v := ?_) (a' := ?_) #[true, true, true, true, true, true, true, true, true, true, true, true, true, true, false, false, false, false, false, false, false, false, false, false, false, false, false, false, false, false, false, false] rfl rfl (any_of HT_.out (by kernel_rfl)) (fun _ _ _ h => h) (Or.inl ⟨by rfl, ?_⟩) ?_ ?_
                          rotate_left
                          · intro w'
                            go_simp
                            with_reducible rfl
                          rotate_left
                          · simp only [Act.put, List.setIfInBounds_toArray, List.set_cons_zero, List.set_cons_succ, i64_w, i32_w]
                            rfl
                          refine pure_ (i := 14) (N := some 45) (v := ?_) (a' := ?_) #[true, true, true, true, true, true, true, true, true, true, true, true, true, true, true, false, false, false, false, false, false, false, false, false, false, false, false, false, false, false, false, false] rfl rfl (any_of HT_.out (by kernel_rfl)) (fun _ _ _ h => h) (Or.inl ⟨by rfl, ?_⟩) ?_ ?_
                          rotate_left
                          · intro w'
                            go_simp
                            with_reducible rfl
                          rotate_left
                          · simp only [Act.put, List.setIfInBounds_toArray, List.set_cons_zero, List.set_cons_succ, i64_w, i32_w]
                            rfl
                          refine pure_ (i := 15) (N := some 46) (v := ?_) (a' := ?_) #[true, true, true, true, true, true, true, true, true, true, true, true, true, true, true, true, false, false, false, false, false, false, false, false, false, false, false, false, false, false, false, false] rfl rfl (any_of HT_.out (by kernel_rfl)) (fun _ _ _ h => h) (Or.inl ⟨by rfl, ?_⟩) ?_ ?_
                          rotate_left
                          · intro w'
                            go_simp
                            with_reducible rfl
                          rotate_left
                          · simp only [Act.put, List.setIfInBounds_toArray, List.set_cons_zero, List.set_cons_succ, i64_w, i32_w]
                            rfl
                          refine pure_ (i := 16) (N := some 47) (v := ?_) (a' := ?_) #[true, true, true, true, true, true, true, true, true, true, true, true, true, true, true, true, true, false, false, false, false, false, false, false, false, false, false, false, false, false, false, false] rfl rfl (any_of HT_.out (by kernel_rfl)) (fun _ _ _ h => h) (Or.inl ⟨by rfl, ?_⟩) ?_ ?_
                          rotate_left
                          · intro w'
                            go_simp
                            with_reducible rfl
                          rotate_left
                          · simp only [Act.put, List.setIfInBounds_toArray, List.set_cons_zero, List.set_cons_succ, i64_w, i32_w]
                            rfl
                          refine pure_ (i := 20) (N := some 51) (v := ?_) (a' := ?_) #[true, true, true, true, true, true, true, true, true, true, true, true, true, true, true, true, true, false, false, false, true, false, false, false, false, false, false, false, false, false, false, false] rfl rfl (any_of HT_.out (by kernel_rfl)) (fun _ _ _ h => h) (Or.inl ⟨by rfl, ?_⟩) ?_ ?_
                          rotate_left
                          · intro w'
                            go_simp
                            with_reducible rfl
                          rotate_left
                          · simp only [Act.put, List.setIfInBounds_toArray, List.set_cons_zero, List.set_cons_succ, i64_w, i32_w]
                            rfl
                          refine pure_ (i := 21) (N := some 52) (v := ?_) (a' := ?_) #[true, true, true, true, true, true, true, true, true, true, true, true, true, true, true, true, true, false, false, false, true, true, false, false, false, false, false, false, false, false, false, false] rfl rfl (any_of HT_.out (by kernel_rfl)) (fun _ _ _ h => h) (Or.inl ⟨by rfl, ?_⟩) ?_ ?_
                          rotate_left
                          · intro w'
                            go_simp
                            with_reducible rfl
                          rotate_left
                          · simp only [Act.put, List.setIfInBounds_toArray, List.set_cons_zero, List.set_cons_succ, i64_w, i32_w]
                            rfl
                          refine pure_ (i := 27) (N := some 58) (v := ?_) (a' := ?_) #[true, true, true, true, true, true, true, true, true, true, true, true, true, true, true, true, true, false, false, false, true, true, false, false, false, false, false, true, false, false, false, false] rfl rfl (any_of HT_.out (by kernel_rfl)) (fun _ _ _ h => h) (Or.inl ⟨by rfl, ?_⟩) ?_ ?_
                          rotate_left
                          · intro w'
                            go_simp
                            with_reducible rfl
                          rotate_left
                          · simp only [Act.put, List.setIfInBounds_toArray, List.set_cons_zero, List.set_cons_succ, i64_w, i32_w]
                            rfl
                          refine take_ (i := 17) (N := some 48) (v := ?_) (a' := ?_) #[true, true, true, true, true, true, true, true, true, true, true, true, true, true, true, true, true, true, false, false, true, true, false, false, false, false, false, true, false, false, false, false] rfl rfl (take_ofW HT_.out HW_.out (by kernel_rfl)) (fun _ _ _ h => h) (Or.inl ⟨by rfl, ?_⟩) hHeld ?_ ?_
                          rotate_left
                          · rintro w' ⟨s0, s1, s2, s3, s4, s5, s6, s7, s8, s9, s10⟩
                            go_simp
                            with_reducible rfl
                          rotate_left
                          · simp only [Act.put, List.setIfInBounds_toArray, List.set_cons_zero, List.set_cons_succ, i64_w, i32_w]
                            rfl
                          refine pure_ (i := 18) (N := some 49) (v := ?_) (a' := ?_) #[true, true, true, true, true, true, true, true, true, true, true, true, true, true, true, true, true, true, true, false, true, true, false, false, false, false, false, true, false, false, false, false] rfl rfl (any_of HT_.out (by kernel_rfl)) (fun _ _ _ h => h) (Or.inl ⟨by rfl, ?_⟩) ?_ ?_
                          rotate_left
                          · intro w'
                            go_simp
                            with_reducible rfl
                          rotate_left
                          · simp only [Act.put, List.setIfInBounds_toArray, List.set_cons_zero, List.set_cons_succ, i64_w, i32_w]
                            rfl
                          refine take_ (i := 19) (N := some 50) (v := ?_) (a' := ?_) #[true, true, true, true, true, true, true, true, true, true, true, true, true, true, true, true, true, true, true, true, true, true, false, false, false, false, false, true, false, false, false, false] rfl rfl (take_ofW HT_.out HW_.out (by kernel_rfl)) (fun _ _ _ h => h) (Or.inl ⟨by rfl, ?_⟩) hHeld ?_ ?_
                          rotate_left
                          · rintro w' ⟨s0, s1, s2, s3, s4, s5, s6, s7, s8, s9, s10⟩
                            go_simp
                            with_reducible rfl
                          rotate_left
                          · simp only [Act.put, List.setIfInBounds_toArray, List.set_cons_zero, List.set_cons_succ, i64_w, i32_w]
                            rfl
                          refine take_ (i := 22) (N := some 53) (v := ?_) (a' := ?_) #[true, true, true, true, true, true, true, true, true, true, true, true, true, true, true, true, true, true, true, true, true, true, true, false, false, false, false, true, false, false, false, false] rfl rfl (take_ofW HT_.out HW_.out (by kernel_rfl)) (fun _ _ _ h => h) (Or.inl ⟨by rfl, ?_⟩) hHeld ?_ ?_
                          rotate_left
                          · rintro w' ⟨s0, s1, s2, s3, s4, s5, s6, s7, s8, s9, s10⟩
                            go_simp
                            with_reducible rfl
                          rotate_left
                          · simp only [Act.put, List.setIfInBounds_toArray, List.set_cons_zero, List.set_cons_succ, i64_w, i32_w]
                            rfl
                          refine pure_ (i := 23) (N := some 54) (v := ?_) (a' := ?_) #[true, true, true, true, true, true, true, true, true, true, true, true, true, true, true, true, true, true, true, true, true, true, true, true, false, false, false, true, false, false, false, false] rfl rfl (any_of HT_.out (by kernel_rfl)) (fun _ _ _ h => h) (Or.inl ⟨by rfl, ?_⟩) ?_ ?_
                          rotate_left
                          · intro w'
                            go_simp
                            with_reducible rfl
                          rotate_left
                          · simp only [Act.put, List.setIfInBounds_toArray, List.set_cons_zero, List.set_cons_succ, i64_w, i32_w]
                            rfl
                          refine take_ (i := 24) (N := some 55) (v := ?_) (a' := ?_) #[true, true, true, true, true, true, true, true, true, true, true, true, true, true, true, true, true, true, true, true, true, true, true, true, true, false, false, true, false, false, false, false] rfl rfl (take_ofW HT_.out HW_.out (by kernel_rfl)) (fun _ _ _ h => h) (Or.inl ⟨by rfl, ?_⟩) hHeld ?_ ?_
                          rotate_left
                          · rintro w' ⟨s0, s1, s2, s3, s4, s5, s6, s7, s8, s9, s10⟩
                            go_simp
                            with_reducible rfl
                          rotate_left
                          · simp only [Act.put, List.setIfInBounds_toArray, List.set_cons_zero, List.set_cons_succ, i64_w, i32_w]
                            rfl
                          refine pure_ (i := 25) (N := some 56) (v := ?_) (a' := ?_) #[true, true, true, true, true, true, true, true, true, true, true, true, true, true, true, true, true, true, true, true, true, true, true, true, true, true, false, true, false, false, false, false] rfl rfl (any_of HT_.out (by kernel_rfl)) (fun _ _ _ h => h) (Or.inl ⟨by rfl, ?_⟩) ?_ ?_
                          rotate_left
                          · intro w'
                            go_simp
                            with_reducible rfl
                          rotate_left
                          · simp only [Act.put, List.setIfInBounds_toArray, List.set_cons_zero, List.set_cons_succ, i64_w, i32_w]
                            rfl
                          refine pure_ (i := 26) (N := some 57) (v := ?_) (a' := ?_) #[true, true, true, true, true, true, true, true, true, true, true, true, true, true, true, true, true, true, true, true, true, true, true, true, true, true, true, true, false, false, false, false] rfl rfl (any_of HT_.out (by kernel_rfl)) (fun _ _ _ h => h) (Or.inl ⟨by rfl, ?_⟩) ?_ ?_
                          rotate_left
                          · intro w'
                            go_simp
                            with_reducible rfl
                          rotate_left
                          · simp only [Act.put, List.setIfInBounds_toArray, List.set_cons_zero, List.set_cons_succ, i64_w, i32_w]
                            rfl
                          refine take_ (i := 28) (N := some 59) (v := ?_) (a' := ?_) #[true, true, true, true, true, true, true, true, true, true, true, true, true, true, true, true, true, true, true, true, true, true, true, true, true, true, true, true, true, false, false, false] rfl rfl (take_ofW HT_.out HW_.out (by kernel_rfl)) (fun _ _ _ h => h) (Or.inl ⟨by rfl, ?_⟩) hHeld ?_ ?_
                          rotate_left
                          · rintro w' ⟨s0, s1, s2, s3, s4, s5, s6, s7, s8, s9, s10⟩
                            go_simp
                            with_reducible rfl
                          rotate_left
                          · simp only [Act.put, List.setIfInBounds_toArray, List.set_cons_zero, List.set_cons_succ, i64_w, i32_w]
                            rfl
                          refine one_ (i := 29) (N := some 60) #[true, true, true, true, true, true, true, true, true, true, true, true, true, true, true, true, true, true, true, true, true, true, true, true, true, true, true, true, true, true, false, false] rfl rfl (one_of HT_.out (by kernel_rfl)) (by decide) (fun K hK => ?_)
                          refine goes_ Try.func16 (by kernel_rfl) rfl #[.int .i64 (wrap64 (t228 - (wrap64 ((rd t221 ((rd_T31 t217 x19_1).f2)) - (rd t221 ((rd_T31 t217 x19_1).f1)))))), .int .i64 t213] (by rfl) rfl rfl (by (try simp only [List.map_toArray, List.map_cons, List.map_nil]); first | done | rfl | (simp only [List.length_drop, List.length_take]; rfl)) ?_
                          with_reducible refine (railplanref1_Mod.calls (wrap64 (t228 - (wrap64 ((rd t221 ((rd_T31 t217 x19_1).f2)) - (rd t221 ((rd_T31 t217 x19_1).f1)))))) t213 t231 _ A38.out).mono ?_
                          rintro e w' ⟨rfl, ⟨nd, rfl⟩⟩
                          refine ⟨_, rfl, ?_⟩
                          refine hK.out _ _ ⟨(blk_cell BK227.out 0).trans rfl, (blk_cell BK227.out 1).trans rfl, (blk_cell BK227.out 2).trans rfl, (blk_cell BK227.out 3).trans rfl, (blk_cell BK227.out 4).trans rfl, (blk_cell BK227.out 5).trans rfl, (blk_cell BK220.out 0).trans rfl, (blk_cell BK220.out 1).trans rfl, (blk_cell BK220.out 2).trans rfl, hHeld.2.2.2.2.2.2.2.2.2.1, hHeld.2.2.2.2.2.2.2.2.2.2⟩ (fun hHeld => ?_)
                          clear hK K
                          refine norm_ (a' := ?_) ?_ ?_
                          rotate_left
                          · show Act.put _ (some 60) _ = _
                            simp only [Act.put, List.setIfInBounds_toArray, List.set_cons_zero, List.set_cons_succ, i64_w, i32_w]
                            rfl
                          refine pure_ (i := 30) (N := some 61) (v := ?_) (a' := ?_) #[true, true, true, true, true, true, true, true, true, true, true, true, true, true, true, true, true, true, true, true, true, true, true, true, true, true, true, true, true, true, true, false] rfl rfl (any_of HT_.out (by kernel_rfl)) (fun _ _ _ h => h) (Or.inl ⟨by rfl, ?_⟩) ?_ ?_
                          rotate_left
                          · intro w'
                            go_simp
                            with_reducible rfl
                          rotate_left
                          · simp only [Act.put, List.setIfInBounds_toArray, List.set_cons_zero, List.set_cons_succ, i64_w, i32_w]
                            rfl
                          refine pure_ (i := 31) (N := some 62) (v := ?_) (a' := ?_) #[true, true, true, true, true, true, true, true, true, true, true, true, true, true, true, true, true, true, true, true, true, true, true, true, true, true, true, true, true, true, true, true] rfl rfl (any_of HT_.out (by kernel_rfl)) (fun _ _ _ h => h) (Or.inl ⟨by rfl, ?_⟩) ?_ ?_
                          rotate_left
                          · intro w'
                            go_simp
                            with_reducible rfl
                          rotate_left
                          · simp only [Act.put, List.setIfInBounds_toArray, List.set_cons_zero, List.set_cons_succ, i64_w, i32_w]
                            rfl
                          refine done_ (done_of HT_.out (by kernel_rfl)) ?_
                          try go_wp2
                          go_ret
                          exact ⟨by first | rfl | (simp [errW_none, errW_some] <;> rfl) | (simp [*, errW_none, errW_some] <;> rfl), by repeat (first | (with_reducible first | exact HB.out | apply below_alloc | apply pw_below_drewN | apply below_drew1 | refine below_set ?_ GE220.out | refine below_set ?_ GE227.out) | exact HB.out)⟩
                      · rw [if_neg c37] at H
                        exact absurd H (by simp)
                    · rw [if_neg c36] at H
                      exact absurd H (by simp)
                  · rw [if_neg c35] at H
                    exact absurd H (by simp)
                · rw [if_neg c34] at H
                  exact absurd H (by simp)
          · rw [if_neg c14] at H
            exact absurd H (by simp)
        · rw [if_neg c13] at H
          exact absurd H (by simp)
      · rw [if_neg c12] at H
        have c12b0 : decide (x19_1 < (t217.length : Int)) = false := decide_eq_false c12
        clear c12
        replace H := Option.bind_eq_some_iff.mp H
        obtain ⟨t224, A660, H⟩ := H
        replace H : (if t224 = true then ((network_Feasible.f t213 t214 t217 t221).bind fun t225 => (some (t225 == x7_1))) else (some false)) = some r := H
        have A66 := Aside0.mk A660
        clear A660
        by_cases c67 : t224 = true
        · subst c67
          have H1 : ((network_Feasible.f t213 t214 t217 t221).bind fun t225 => (some (t225 == x7_1))) = some r := by rw [if_pos rfl] at H; exact H
          clear H
          have H := H1
          clear H1
          replace H := Option.bind_eq_some_iff.mp H
          obtain ⟨t225, A680, H⟩ := H
          replace H : (some (t225 == x7_1)) = some r := H
          have A68 := Aside0.mk A680
          clear A680
          obtain rfl := Option.some.inj H
          go_wp2_with (first | ((with_reducible refine gate_callee (f := 10) rfl ?_); refine goesL_ (some 71) rfl rfl Try.func10 (by kernel_rfl) rfl #[] rfl (by (try simp only [List.map_toArray, List.map_cons, List.map_nil]); first | done | rfl | (simp only [List.length_drop, List.length_take]; rfl)) ?_; (with_reducible refine (railplanlaw11_awake.calls  true _ A66.out).mono ?_); rintro e w69 ⟨rfl, hb⟩; refine ⟨_, rfl, ?_⟩; have n0_ := Aside0.mk (Kd.R_below (by (with_reducible repeat (first | apply Kd.R_alloc | apply Kd.R_drewN | apply Kd.R_drew)); exact HO_6.out) hb); have n1_ := Aside0.mk (Kd.R_below (by (with_reducible repeat (first | apply Kd.R_alloc | apply Kd.R_drewN | apply Kd.R_drew)); exact HO_221001.out) hb); have n2_ := Aside0.mk (Kd.R_below (by (with_reducible repeat (first | apply Kd.R_alloc | apply Kd.R_drewN | apply Kd.R_drew)); exact HO_221002.out) hb); have n3_ := Aside0.mk (blk_below (g := gb220) (o := .cells #[.int .i64 t213, .slice Ao8 t214.length co8, .slice Ao9 t217.length co9] 26 (0, 0)) (by (with_reducible repeat (first | refine blk_drewN ?_ _ | refine blk_drew ?_ | refine blk_alloc ?_ _)); exact BK220.out) hb); have n4_ := Aside0.mk (below_step (by repeat (first | (with_reducible first | exact HB.out | apply below_alloc | apply pw_below_drewN | apply below_drew1 | refine below_set ?_ GE220.out) | exact HB.out)) hb); clear HO_6; clear HO_221001; clear HO_221002; clear BK220; clear HB; have HO_6 := n0_; have HO_221001 := n1_; have HO_221002 := n2_; have BK220 := n3_; have HB := n4_; clear n0_ n1_ n2_ n3_ n4_; (try clear hb); (try clear hb2); (try clear hk); (try clear hi); have hcz70_0 : w69.cell? ⟨gb220, 0, none⟩ = some (.int .i64 t213) := (blk_cell BK220.out 0).trans rfl; have hcz70_1 : w69.cell? ⟨gb220, 1, none⟩ = some (.slice Ao8 t214.length co8) := (blk_cell BK220.out 1).trans rfl; have hcz70_2 : w69.cell? ⟨gb220, 2, none⟩ = some (.slice Ao9 t217.length co9) := (blk_cell BK220.out 2).trans rfl; have hfz70_0 := blk_frozen BK220.out 0; have hfz70_1 := blk_frozen BK220.out 1; have hfz70_2 := blk_frozen BK220.out 2; obtain ⟨Ao71, co71, eo71⟩ := Kd.R_slice HO_6.out; subst eo71) | (go_at_call 17; (with_reducible refine (network_Feasible.calls t213 _ _ t214 _ _ t217 _ _ t221 t225 _ ?side1 ?side2 ?side3 ?side4 ?side5 ?side6 A68.out).mono ?_); (case side1 => repeat (first | exact (Kd.R_reads' HO_221001.out).2.2 | (with_reducible refine Kd.C_alloc ?_ _) | (with_reducible refine Kd.C_drewN ?_ _) | (with_reducible refine Kd.C_drew ?_))); (case side2 => exact (Kd.R_reads' HO_221001.out).2.1); (case side3 => repeat (first | exact (Kd.R_reads' HO_221002.out).2.2 | (with_reducible refine Kd.C_alloc ?_ _) | (with_reducible refine Kd.C_drewN ?_ _) | (with_reducible refine Kd.C_drew ?_))); (case side4 => exact (Kd.R_reads' HO_221002.out).2.1); (case side5 => repeat (first | exact (Kd.R_reads' HO_6.out).2.2 | (with_reducible refine Kd.C_alloc ?_ _) | (with_reducible refine Kd.C_drewN ?_ _) | (with_reducible refine Kd.C_drew ?_))); (case side6 => exact (Kd.R_reads' HO_6.out).2.1); rintro e w72 ⟨rfl, hb⟩; have n0_ := Aside0.mk (Kd.R_below (by (with_reducible repeat (first | apply Kd.R_alloc | apply Kd.R_drewN | apply Kd.R_drew)); exact HO_6.out) hb); have n1_ := Aside0.mk (Kd.R_below (by (with_reducible repeat (first | apply Kd.R_alloc | apply Kd.R_drewN | apply Kd.R_drew)); exact HO_221001.out) hb); have n2_ := Aside0.mk (Kd.R_below (by (with_reducible repeat (first | apply Kd.R_alloc | apply Kd.R_drewN | apply Kd.R_drew)); exact HO_221002.out) hb); have n3_ := Aside0.mk (blk_below (g := gb220) (o := .cells #[.int .i64 t213, .slice Ao8 t214.length co8, .slice Ao9 t217.length co9] 26 (0, 0)) (by (with_reducible repeat (first | refine blk_drewN ?_ _ | refine blk_drew ?_ | refine blk_alloc ?_ _)); exact BK220.out) hb); have n4_ := Aside0.mk (below_step (by repeat (first | (with_reducible first | exact HB.out | apply below_alloc | apply pw_below_drewN | apply below_drew1 | refine below_set ?_ GE220.out) | exact HB.out)) hb); clear HO_6; clear HO_221001; clear HO_221002; clear BK220; clear HB; have HO_6 := n0_; have HO_221001 := n1_; have HO_221002 := n2_; have BK220 := n3_; have HB := n4_; clear n0_ n1_ n2_ n3_ n4_; (try clear hb); (try clear hb2); (try clear hk); (try clear hi)))
          go_ret
          exact ⟨by first | rfl | (simp [errW_none, errW_some] <;> rfl) | (simp [*, errW_none, errW_some] <;> rfl), by repeat (first | (with_reducible first | exact HB.out | apply below_alloc | apply pw_below_drewN | apply below_drew1 | refine below_set ?_ GE220.out) | exact HB.out)⟩
        · replace c67 := Bool.eq_false_iff.mpr c67
          subst c67
          have H1 : (some false) = some r := by rw [if_neg (show ¬ (false = true) by decide)] at H; exact H
          clear H
          have H := H1
          clear H1
          obtain rfl := Option.some.inj H
          go_wp2_with (first | ((with_reducible refine gate_callee (f := 10) rfl ?_); refine goesL_ (some 71) rfl rfl Try.func10 (by kernel_rfl) rfl #[] rfl (by (try simp only [List.map_toArray, List.map_cons, List.map_nil]); first | done | rfl | (simp only [List.length_drop, List.length_take]; rfl)) ?_; (with_reducible refine (railplanlaw11_awake.calls  false _ A66.out).mono ?_); rintro e w73 ⟨rfl, hb⟩; refine ⟨_, rfl, ?_⟩; have n0_ := Aside0.mk (Kd.R_below (by (with_reducible repeat (first | apply Kd.R_alloc | apply Kd.R_drewN | apply Kd.R_drew)); exact HO_6.out) hb); have n1_ := Aside0.mk (Kd.R_below (by (with_reducible repeat (first | apply Kd.R_alloc | apply Kd.R_drewN | apply Kd.R_drew)); exact HO_221001.out) hb); have n2_ := Aside0.mk (Kd.R_below (by (with_reducible repeat (first | apply Kd.R_alloc | apply Kd.R_drewN | apply Kd.R_drew)); exact HO_221002.out) hb); have n3_ := Aside0.mk (blk_below (g := gb220) (o := .cells #[.int .i64 t213, .slice Ao8 t214.length co8, .slice Ao9 t217.length co9] 26 (0, 0)) (by (with_reducible repeat (first | refine blk_drewN ?_ _ | refine blk_drew ?_ | refine blk_alloc ?_ _)); exact BK220.out) hb); have n4_ := Aside0.mk (below_step (by repeat (first | (with_reducible first | exact HB.out | apply below_alloc | apply pw_below_drewN | apply below_drew1 | refine below_set ?_ GE220.out) | exact HB.out)) hb); clear HO_6; clear HO_221001; clear HO_221002; clear BK220; clear HB; have HO_6 := n0_; have HO_221001 := n1_; have HO_221002 := n2_; have BK220 := n3_; have HB := n4_; clear n0_ n1_ n2_ n3_ n4_; (try clear hb); (try clear hb2); (try clear hk); (try clear hi)))
          go_ret
          exact ⟨by first | rfl | (simp [errW_none, errW_some] <;> rfl) | (simp [*, errW_none, errW_some] <;> rfl), by repeat (first | (with_reducible first | exact HB.out | apply below_alloc | apply pw_below_drewN | apply below_drew1 | refine below_set ?_ GE220.out) | exact HB.out)⟩

/-- THE ONE PURE STATEMENT of railplanlaw11_NetworkDurations: yours. -/
def railplanlaw11_NetworkDurations.Pure : Prop := ∀ (l0 : List Int) (l1 : List Int), l0.length ≤ maxLen → l0.length * 8 ≤ 140737488351232 → (∀ x ∈ l0, (Lit.int .i64 x).wf = true) → l1.length ≤ maxLen → l1.length * 8 ≤ 140737488351232 → (∀ x ∈ l1, (Lit.int .i64 x).wf = true) → ∃ k, railplanlaw11_NetworkDurations.f k l0 l1 = some true
theorem railplanlaw11_NetworkDurations.walk (P : railplanlaw11_NetworkDurations.Pure) (a0 : Option Addr) (len0 cap0 : Nat) (z0 : List Int) (a1 : Option Addr) (len1 cap1 : Nat) (z1 : List Int) (w : World) (w0 : (a0 = none ∧ len0 = 0 ∧ cap0 = 0 ∧ z0 = []) ∨ ∃ x, a0 = some x ∧ len0 ≤ cap0 ∧ cap0 ≤ maxLen ∧ z0.length = cap0 ∧ (∀ i, i < z0.length → w.cell? (x.add i) = some (.int .i64 (z0.getD i 0))) ∧ ∀ n ∈ z0, (Lit.int .i64 n).wf = true) (y0 : len0 * 8 ≤ 140737488351232) (w1 : (a1 = none ∧ len1 = 0 ∧ cap1 = 0 ∧ z1 = []) ∨ ∃ x, a1 = some x ∧ len1 ≤ cap1 ∧ cap1 ≤ maxLen ∧ z1.length = cap1 ∧ (∀ i, i < z1.length → w.cell? (x.add i) = some (.int .i64 (z1.getD i 0))) ∧ ∀ n ∈ z1, (Lit.int .i64 n).wf = true) (y1 : len1 * 8 ≤ 140737488351232) :
    Calls Try.prog 4 #[.slice a0 len0 cap0, .slice a1 len1 cap1] w fun e w' => e = .returned (.bool true) ∧ Below w.heap.size w w' := by
  obtain ⟨l0, rfl, hr0, hm0, hw0, hc0⟩ := ReadsInt.ofRowC w0
  obtain ⟨l1, rfl, hr1, hm1, hw1, hc1⟩ := ReadsInt.ofRowC w1
  obtain ⟨k, h⟩ := P l0 l1 hm0 y0 hw0 hm1 y1 hw1
  refine (railplanlaw11_NetworkDurations.calls k _ _ l0 _ _ l1 true w (Kd.C_of_reads (d := (0 : Int)) (h1 := fun _ => rfl) hr0) hc0 (Kd.C_of_reads (d := (0 : Int)) (h1 := fun _ => rfl) hr1) hc1 h).mono ?_
  rintro e w' ⟨rfl, hd⟩
  exact ⟨rfl, hd⟩

end Go.Proofs.Ytapnkefhihgbbaa.PAll
