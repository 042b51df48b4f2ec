/- What calls of the Go functions below do, each under the premises that its theorem states. Laid by a program of the claimant, which drives the kit's print; some texts are written by hand. -/
import Derived.Test.YtapnkefhihgbbaaPAllx0
import Derived.Test.YtapnkefhihgbbaaPAllxe46
import Derived.Test.YtapnkefhihgbbaaPAllxf10
import Derived.Test.YtapnkefhihgbbaaPAllxf31
import Derived.Test.YtapnkefhihgbbaaPAllxf32
import Derived.Test.YtapnkefhihgbbaaPAllxf43
namespace Go.Proofs.Ytapnkefhihgbbaa.PAll
open Go.RowKit Go.Proofs.YtapnkefhihgbbaaW.PrintWords Go.Proofs.YtapnkefhihgbbaaW.PrintLast Go.Proofs.YtapnkefhihgbbaaW.PrintMore
attribute [local go_sem] max2_int min2_int max_two min_two max_three min_three max_four min_four   -- for this text's walks alone
set_option linter.unusedVariables false
set_option linter.unusedSimpArgs false

attribute [local go_sem high] eqA46
/-! ### railplanref11_Duration: function 35 -/
def railplanref11_Duration.f (k : Nat) (a0_0 : Int) (l0_1 : List (S46)) (l0_2 : List (S31)) (l1 : List Int) (a2 : Int) : Option (Int) := (railplanref11_Good.f k a0_0 l0_1 l0_2 l1).bind fun t274 => (if t274 = true then ((railplanref11_in.f a2 0 (wrap64 ((l0_2.length : Int) - 1))).bind fun t275 => (if t275 = true then (if 0 ≤ a2 then (if a2 < (l0_2.length : Int) then ((railplanref11_Lasts.f a0_0 l0_1 l0_2 l1 ((rd_T31 l0_2 a2).f0) ((rd_T31 l0_2 a2).f1) ((rd_T31 l0_2 a2).f2) ((rd_T31 l0_2 a2).f3) ((rd_T31 l0_2 a2).f4) ((rd_T31 l0_2 a2).f5)).bind fun t277 => (some t277)) else (none)) else (none)) else (some 0))) else (some 0))
theorem railplanref11_Duration.mono : ∀ a0 a1 a2 a3 a4 k, LeO (railplanref11_Duration.f k a0 a1 a2 a3 a4) (railplanref11_Duration.f (k + 1) a0 a1 a2 a3 a4) := by
  intro a0 a1 a2 a3 a4 k
  unfold railplanref11_Duration.f
  repeat' first
      | (with_reducible exact railplanref11_Good.mono _ _ _ _ _)
      | (with_reducible exact LeO.refl _)
      | (with_reducible exact LeO.none _)
      | (with_reducible refine LeO.ite ?_ ?_)
      | (with_reducible refine LeO.bind ?_ (fun _ => ?_))
      | exact railplanref11_Good.mono _ _ _ _ _
      | exact LeO.none _
      | refine LeO.ite ?_ ?_
      | refine LeO.bind ?_ (fun _ => ?_)
def railplanref11_Duration.T3 : Bool × List (List Nat × List Nat) := (true, [([], []), ([], []), ([], []), ([2], [2]), ([], []), ([3, 4], [3, 4]), ([5], [5]), ([0, 1, 6], [0, 1, 6]), ([7, 7, 0, 1, 2, 3, 4, 5, 6, 7], [7])])
def railplanref11_Duration.B3 : List Nat := [0, 0, 0, 4, 0, 28, 60, 127, 255]
theorem railplanref11_Duration.tab3 : rtab .any (opsOf Try.f35 3) = railplanref11_Duration.T3 := by kernel_rfl
theorem railplanref11_Duration.bits3 : waitsOk railplanref11_Duration.T3.2 railplanref11_Duration.B3 = true := by kernel_rfl
set_option maxHeartbeats 8000000 in
set_option maxRecDepth 100000 in
theorem railplanref11_Duration.calls (k : Nat) (a0_0 : Int) (A0_1 : Option Addr) (c0_1 : Nat) (l0_1 : List (S46)) (A0_2 : Option Addr) (c0_2 : Nat) (l0_2 : List (S31)) (A1 : Option Addr) (c1 : Nat) (l1 : List Int) (a2 : Int) (r : Int) (w : World) (hr0_1 : Kd.C k46 w A0_1 l0_1.length l0_1) (hc0_1 : l0_1.length ≤ c0_1) (hr0_2 : Kd.C k31 w A0_2 l0_2.length l0_2) (hc0_2 : l0_2.length ≤ c0_2) (hr1 : Kd.C (Kd.int .i64) w A1 l1.length l1) (hc1 : l1.length ≤ c1) (h : railplanref11_Duration.f k a0_0 l0_1 l0_2 l1 a2 = some r) :
    Calls Try.prog 35 #[.agg #[.int .i64 a0_0, .slice A0_1 l0_1.length c0_1, .slice A0_2 l0_2.length c0_2], .slice A1 l1.length c1, .int .i64 a2] w fun e w' => e = .returned (.int .i64 r) ∧ Below w.heap.size w w' := by
  have hu26 := Try.underlying26
  have hu31 := Try.underlying31
  have HR0_1 := Aside0.mk hr0_1
  have HC0_1 := Aside0.mk hc0_1
  clear hr0_1 hc0_1
  have HR0_2 := Aside0.mk hr0_2
  have HC0_2 := Aside0.mk hc0_2
  clear hr0_2 hc0_2
  have HR1 := Aside0.mk hr1
  have HC1 := Aside0.mk hc1
  clear hr1 hc1
  have HB := Aside0.mk (Below.refl w.heap.size w)
  have H : ((railplanref11_Good.f k a0_0 l0_1 l0_2 l1).bind fun t274 => (if t274 = true then ((railplanref11_in.f a2 0 (wrap64 ((l0_2.length : Int) - 1))).bind fun t275 => (if t275 = true then (if 0 ≤ a2 then (if a2 < (l0_2.length : Int) then ((railplanref11_Lasts.f a0_0 l0_1 l0_2 l1 ((rd_T31 l0_2 a2).f0) ((rd_T31 l0_2 a2).f1) ((rd_T31 l0_2 a2).f2) ((rd_T31 l0_2 a2).f3) ((rd_T31 l0_2 a2).f4) ((rd_T31 l0_2 a2).f5)).bind fun t277 => (some t277)) else (none)) else (none)) else (some 0))) else (some 0))) = some r := h
  clear h
  replace H := Option.bind_eq_some_iff.mp H
  obtain ⟨t274, A40, H⟩ := H
  replace H : (if t274 = true then ((railplanref11_in.f a2 0 (wrap64 ((l0_2.length : Int) - 1))).bind fun t275 => (if t275 = true then (if 0 ≤ a2 then (if a2 < (l0_2.length : Int) then ((railplanref11_Lasts.f a0_0 l0_1 l0_2 l1 ((rd_T31 l0_2 a2).f0) ((rd_T31 l0_2 a2).f1) ((rd_T31 l0_2 a2).f2) ((rd_T31 l0_2 a2).f3) ((rd_T31 l0_2 a2).f4) ((rd_T31 l0_2 a2).f5)).bind fun t277 => (some t277)) else (none)) else (none)) else (some 0))) else (some 0)) = some r := H
  have A4 := Aside0.mk A40
  clear A40
  by_cases c5 : t274 = true
  · subst c5
    have H1 : ((railplanref11_in.f a2 0 (wrap64 ((l0_2.length : Int) - 1))).bind fun t275 => (if t275 = true then (if 0 ≤ a2 then (if a2 < (l0_2.length : Int) then ((railplanref11_Lasts.f a0_0 l0_1 l0_2 l1 ((rd_T31 l0_2 a2).f0) ((rd_T31 l0_2 a2).f1) ((rd_T31 l0_2 a2).f2) ((rd_T31 l0_2 a2).f3) ((rd_T31 l0_2 a2).f4) ((rd_T31 l0_2 a2).f5)).bind fun t277 => (some t277)) else (none)) else (none)) else (some 0))) = some r := by rw [if_pos rfl] at H; exact H
    clear H
    have H := H1
    clear H1
    replace H := Option.bind_eq_some_iff.mp H
    obtain ⟨t275, A60, H⟩ := H
    replace H : (if t275 = true then (if 0 ≤ a2 then (if a2 < (l0_2.length : Int) then ((railplanref11_Lasts.f a0_0 l0_1 l0_2 l1 ((rd_T31 l0_2 a2).f0) ((rd_T31 l0_2 a2).f1) ((rd_T31 l0_2 a2).f2) ((rd_T31 l0_2 a2).f3) ((rd_T31 l0_2 a2).f4) ((rd_T31 l0_2 a2).f5)).bind fun t277 => (some t277)) else (none)) else (none)) else (some 0)) = some r := H
    have A6 := Aside0.mk A60
    clear A60
    by_cases c7 : t275 = true
    · subst c7
      have H1 : (if 0 ≤ a2 then (if a2 < (l0_2.length : Int) then ((railplanref11_Lasts.f a0_0 l0_1 l0_2 l1 ((rd_T31 l0_2 a2).f0) ((rd_T31 l0_2 a2).f1) ((rd_T31 l0_2 a2).f2) ((rd_T31 l0_2 a2).f3) ((rd_T31 l0_2 a2).f4) ((rd_T31 l0_2 a2).f5)).bind fun t277 => (some t277)) else (none)) else (none)) = some r := by rw [if_pos rfl] at H; exact H
      clear H
      have H := H1
      clear H1
      by_cases c8 : 0 ≤ a2
      · rw [if_pos c8] at H
        have c8b0 : decide (0 ≤ a2) = true := decide_eq_true c8
        clear c8
        by_cases c9 : a2 < (l0_2.length : Int)
        · rw [if_pos c9] at H
          have c9b0 : decide (a2 < (l0_2.length : Int)) = true := decide_eq_true c9
          clear c9
          replace H := Option.bind_eq_some_iff.mp H
          obtain ⟨t277, A100, H⟩ := H
          replace H : (some t277) = some r := H
          have A10 := Aside0.mk A100
          clear A100
          obtain rfl := Option.some.inj H
          go_enter Try.func35, Try.ntmps35
          try go_wp2_with (first | ((with_reducible refine gate_dst (N := 3) rfl ?_); (try (refine gate_guard (by rfl) ?_; dsimp only)); refine box_event ?hg (N := 3) ?hd (cs := #[.int .i64 a0_0, .slice A0_1 l0_1.length c0_1, .slice A0_2 l0_2.length c0_2]) (t := 26) ?hr ?_; (case hd => rfl); (case hg => rfl); (case hr => first | (go_simp; done) | (go_simp; rfl)); intro gb273 hg w11 hbox hb; have n0_ := Aside0.mk (below_step (by repeat (first | (with_reducible first | exact HB.out | apply below_alloc | apply pw_below_drewN | apply below_drew1) | exact HB.out)) hb); have n1_ := Aside0.mk (hbox); have n2_ := Aside0.mk ((by rw [hg]; exact (below_size (by repeat (first | (with_reducible first | exact HB.out | apply below_alloc | apply pw_below_drewN | apply below_drew1) | exact HB.out))) : w.heap.size ≤ gb273)); have n3_ := Aside0.mk ((by rw [hg]; exact (below_size (by repeat (first | (with_reducible first | exact HB.out | apply below_alloc | apply pw_below_drewN | apply below_drew1) | exact HB.out))) : w.heap.size ≤ gb273)); clear HB; have HB := n0_; have BK273 := n1_; have GW273 := n2_; have GE273 := n3_; clear n0_ n1_ n2_ n3_; clear hb hbox hg; have hcz12_0 : w11.cell? ⟨gb273, 0, none⟩ = some (.int .i64 a0_0) := (blk_cell BK273.out 0).trans rfl; have hcz12_1 : w11.cell? ⟨gb273, 1, none⟩ = some (.slice A0_1 l0_1.length c0_1) := (blk_cell BK273.out 1).trans rfl; have hcz12_2 : w11.cell? ⟨gb273, 2, none⟩ = some (.slice A0_2 l0_2.length c0_2) := (blk_cell BK273.out 2).trans rfl; have hfz12_0 := blk_frozen BK273.out 0; have hfz12_1 := blk_frozen BK273.out 1; have hfz12_2 := blk_frozen BK273.out 2) | ((with_reducible refine gate_callee (f := 34) rfl ?_); refine goesL_ (some 9) rfl rfl Try.func34 (by kernel_rfl) rfl #[.agg #[.int .i64 a0_0, .slice A0_1 l0_1.length c0_1, .slice A0_2 l0_2.length c0_2], .slice A1 l1.length c1] rfl (by (try simp only [List.map_toArray, List.map_cons, List.map_nil]); first | done | rfl | (simp only [List.length_drop, List.length_take]; rfl)) ?_; (with_reducible refine (railplanref11_Good.calls k a0_0 _ _ l0_1 _ _ l0_2 _ _ l1 true _ ?side1 ?side2 ?side3 ?side4 ?side5 ?side6 A4.out).mono ?_); (case side1 => repeat (first | exact (Kd.C_below HR0_1.out HB.out) | (with_reducible refine Kd.C_alloc ?_ _) | (with_reducible refine Kd.C_drewN ?_ _) | (with_reducible refine Kd.C_drew ?_))); (case side2 => exact HC0_1.out); (case side3 => repeat (first | exact (Kd.C_below HR0_2.out HB.out) | (with_reducible refine Kd.C_alloc ?_ _) | (with_reducible refine Kd.C_drewN ?_ _) | (with_reducible refine Kd.C_drew ?_))); (case side4 => exact HC0_2.out); (case side5 => repeat (first | exact (Kd.C_below HR1.out HB.out) | (with_reducible refine Kd.C_alloc ?_ _) | (with_reducible refine Kd.C_drewN ?_ _) | (with_reducible refine Kd.C_drew ?_))); (case side6 => exact HC1.out); rintro e w13 ⟨rfl, hb⟩; refine ⟨_, rfl, ?_⟩; have n0_ := Aside0.mk (blk_below (g := gb273) (o := .cells #[.int .i64 a0_0, .slice A0_1 l0_1.length c0_1, .slice A0_2 l0_2.length c0_2] 26 (0, 0)) (by (with_reducible repeat (first | refine blk_drewN ?_ _ | refine blk_drew ?_ | refine blk_alloc ?_ _)); exact BK273.out) hb); have n1_ := Aside0.mk (below_step (by repeat (first | (with_reducible first | exact HB.out | apply below_alloc | apply pw_below_drewN | apply below_drew1 | refine below_set ?_ GE273.out) | exact HB.out)) hb); clear BK273; clear HB; have BK273 := n0_; have HB := n1_; clear n0_ n1_; (try clear hb); (try clear hb2); (try clear hk); (try clear hi); have hcz14_0 : w13.cell? ⟨gb273, 0, none⟩ = some (.int .i64 a0_0) := (blk_cell BK273.out 0).trans rfl; have hcz14_1 : w13.cell? ⟨gb273, 1, none⟩ = some (.slice A0_1 l0_1.length c0_1) := (blk_cell BK273.out 1).trans rfl; have hcz14_2 : w13.cell? ⟨gb273, 2, none⟩ = some (.slice A0_2 l0_2.length c0_2) := (blk_cell BK273.out 2).trans rfl; have hfz14_0 := blk_frozen BK273.out 0; have hfz14_1 := blk_frozen BK273.out 1; have hfz14_2 := blk_frozen BK273.out 2) | (go_at_call 28; (with_reducible refine (railplanref11_in.calls a2 0 (wrap64 ((l0_2.length : Int) - 1)) true _ A6.out).mono ?_); rintro e w' ⟨rfl, ⟨nd, rfl⟩⟩))
          (try (rw [drewN_self w13]; generalize hq_ : World.drewN w13 _ = w13; have n0_ : Aside0 (w13.heap[gb273]? = some (.cells #[.int .i64 a0_0, .slice A0_1 l0_1.length c0_1, .slice A0_2 l0_2.length c0_2] 26 (0, 0))) := ⟨by rw [← hq_]; exact (by (with_reducible repeat (first | refine blk_drewN ?_ _ | refine blk_drew ?_ | refine blk_alloc ?_ _)); exact BK273.out)⟩; have n1_ : Aside0 (Below w.heap.size w w13) := ⟨by rw [← hq_]; exact (by repeat (first | (with_reducible first | exact HB.out | apply below_alloc | apply pw_below_drewN | apply below_drew1 | refine below_set ?_ GE273.out) | exact HB.out))⟩; clear BK273 HB hq_; have BK273 := n0_; have HB := n1_; clear n0_ n1_))
          have n0_ := Aside0.mk (blk_drew BK273.out)
          have n1_ := Aside0.mk (below_drew1 HB.out)
          clear BK273
          clear HB
          have BK273 := n0_
          have HB := n1_
          clear n0_ n1_
          have p276 : 0 ≤ (a2 : Int) := of_decide_eq_true (by first | (with_reducible assumption) | assumption)
          have q276 : a2 < (l0_2.length : Int) := of_decide_eq_true (by first | (with_reducible assumption) | assumption)
          obtain ⟨ad276, e276, hx276_0, hx276_1, hx276_2, hx276_3, hx276_4, hx276_5⟩ := at_T31 HR0_2.out a2 p276 q276
          have hw276_5 := hx276_5
          have hw276_4 := hx276_4
          have hw276_3 := hx276_3
          have hw276_2 := hx276_2
          have hw276_1 := hx276_1
          have hw276_0 := hx276_0
          cases e276
          replace hx276_0 := (HB.out.cell (World.block_lt_of_cell? w _ hx276_0)).trans hx276_0
          replace hx276_1 := (HB.out.cell (World.block_lt_of_cell? w _ hx276_1)).trans hx276_1
          replace hx276_2 := (HB.out.cell (World.block_lt_of_cell? w _ hx276_2)).trans hx276_2
          replace hx276_3 := (HB.out.cell (World.block_lt_of_cell? w _ hx276_3)).trans hx276_3
          replace hx276_4 := (HB.out.cell (World.block_lt_of_cell? w _ hx276_4)).trans hx276_4
          replace hx276_5 := (HB.out.cell (World.block_lt_of_cell? w _ hx276_5)).trans hx276_5
          replace p276 := eq_true p276
          replace q276 := eq_true q276
          refine start_ (n := 9) (S := fun w' => w'.cell? ⟨gb273, 0, none⟩ = some (.int .i64 a0_0) ∧ w'.cell? ⟨gb273, 1, none⟩ = some (.slice A0_1 l0_1.length c0_1) ∧ w'.cell? ⟨gb273, 2, none⟩ = some (.slice (some ad276) l0_2.length c0_2) ∧ w'.cell? (ad276.add ((a2).toNat * 6)) = some (.int .i64 ((rd_T31 l0_2 a2).f0)) ∧ w'.cell? ⟨(ad276.add ((a2).toNat * 6)).block, (ad276.add ((a2).toNat * 6)).off + 1, none⟩ = some (.int .i64 ((rd_T31 l0_2 a2).f1)) ∧ w'.cell? ⟨(ad276.add ((a2).toNat * 6)).block, (ad276.add ((a2).toNat * 6)).off + 2, none⟩ = some (.int .i64 ((rd_T31 l0_2 a2).f2)) ∧ w'.cell? ⟨(ad276.add ((a2).toNat * 6)).block, (ad276.add ((a2).toNat * 6)).off + 3, none⟩ = some (.int .i64 ((rd_T31 l0_2 a2).f3)) ∧ w'.cell? ⟨(ad276.add ((a2).toNat * 6)).block, (ad276.add ((a2).toNat * 6)).off + 4, none⟩ = some (.int .i64 ((rd_T31 l0_2 a2).f4)) ∧ w'.cell? ⟨(ad276.add ((a2).toNat * 6)).block, (ad276.add ((a2).toNat * 6)).off + 5, none⟩ = some (.int .i64 ((rd_T31 l0_2 a2).f5))) (ds := []) #[false, false, false, false, false, false, false, false, false] (by kernel_rfl) rfl rfl ⟨(blk_cell BK273.out 0).trans rfl, (blk_cell BK273.out 1).trans rfl, (blk_cell BK273.out 2).trans rfl, ((HB.out.cell (World.block_lt_of_cell? w _ hw276_0)).trans hw276_0), ((HB.out.cell (World.block_lt_of_cell? w _ hw276_1)).trans hw276_1), ((HB.out.cell (World.block_lt_of_cell? w _ hw276_2)).trans hw276_2), ((HB.out.cell (World.block_lt_of_cell? w _ hw276_3)).trans hw276_3), ((HB.out.cell (World.block_lt_of_cell? w _ hw276_4)).trans hw276_4), ((HB.out.cell (World.block_lt_of_cell? w _ hw276_5)).trans hw276_5)⟩ (fun hHeld => ?_); refine with_tabW railplanref11_Duration.tab3 railplanref11_Duration.bits3 (fun HT_ HW_ => ?_)
          generalize w13.drew = w15 at BK273 HB hx276_0 hx276_1 hx276_2 hx276_3 hx276_4 hx276_5 hHeld ⊢
          refine pure_ (i := 1) (N := some 21) (v := ?_) (a' := ?_) #[false, true, false, false, false, false, false, false, false] rfl rfl (any_of HT_.out (by kernel_rfl)) (fun _ _ _ h => h) (Or.inl ⟨by rfl, ?_⟩) ?_ ?_
          rotate_left
          · intro w'
            go_simp
            with_reducible rfl
          rotate_left
          · simp only [Act.put, List.setIfInBounds_toArray, List.set_cons_zero, List.set_cons_succ, i64_w, i32_w]
            rfl
          refine pure_ (i := 2) (N := some 22) (v := ?_) (a' := ?_) #[false, true, true, false, false, false, false, false, false] rfl rfl (any_of HT_.out (by kernel_rfl)) (fun _ _ _ h => h) (Or.inl ⟨by rfl, ?_⟩) ?_ ?_
          rotate_left
          · intro w'
            go_simp
            with_reducible rfl
          rotate_left
          · simp only [Act.put, List.setIfInBounds_toArray, List.set_cons_zero, List.set_cons_succ, i64_w, i32_w]
            rfl
          refine pure_ (i := 4) (N := some 24) (v := ?_) (a' := ?_) #[false, true, true, false, true, false, false, false, false] rfl rfl (any_of HT_.out (by kernel_rfl)) (fun _ _ _ h => h) (Or.inl ⟨by rfl, ?_⟩) ?_ ?_
          rotate_left
          · intro w'
            go_simp
            with_reducible rfl
          rotate_left
          · simp only [Act.put, List.setIfInBounds_toArray, List.set_cons_zero, List.set_cons_succ, i64_w, i32_w]
            rfl
          refine take_ (i := 0) (N := some 20) (v := ?_) (a' := ?_) #[true, true, true, false, true, false, false, false, false] rfl rfl (take_ofW HT_.out HW_.out (by kernel_rfl)) (fun _ _ _ h => h) (Or.inl ⟨by rfl, ?_⟩) hHeld ?_ ?_
          rotate_left
          · rintro w' ⟨s0, s1, s2, s3, s4, s5, s6, s7, s8⟩
            go_simp
            with_reducible rfl
          rotate_left
          · simp only [Act.put, List.setIfInBounds_toArray, List.set_cons_zero, List.set_cons_succ, i64_w, i32_w]
            rfl
          refine take_ (i := 3) (N := some 23) (v := ?_) (a' := ?_) #[true, true, true, true, true, false, false, false, false] rfl rfl (take_ofW HT_.out HW_.out (by kernel_rfl)) (fun _ _ _ h => h) (Or.inl ⟨by rfl, ?_⟩) hHeld ?_ ?_
          rotate_left
          · rintro w' ⟨s0, s1, s2, s3, s4, s5, s6, s7, s8⟩
            go_simp
            with_reducible rfl
          rotate_left
          · simp only [Act.put, List.setIfInBounds_toArray, List.set_cons_zero, List.set_cons_succ, i64_w, i32_w]
            rfl
          refine pure_ (i := 5) (N := some 25) (v := ?_) (a' := ?_) #[true, true, true, true, true, true, false, false, false] rfl rfl (any_of HT_.out (by kernel_rfl)) (fun _ _ _ h => h) (Or.inl ⟨by rfl, ?_⟩) ?_ ?_
          rotate_left
          · intro w'
            go_simp
            with_reducible rfl
          rotate_left
          · simp only [Act.put, List.setIfInBounds_toArray, List.set_cons_zero, List.set_cons_succ, i64_w, i32_w]
            rfl
          refine take_ (i := 6) (N := some 26) (v := ?_) (a' := ?_) #[true, true, true, true, true, true, true, false, false] rfl rfl (take_ofW HT_.out HW_.out (by kernel_rfl)) (fun _ _ _ h => h) (Or.inl ⟨by rfl, ?_⟩) hHeld ?_ ?_
          rotate_left
          · rintro w' ⟨s0, s1, s2, s3, s4, s5, s6, s7, s8⟩
            go_simp
            with_reducible rfl
          rotate_left
          · simp only [Act.put, List.setIfInBounds_toArray, List.set_cons_zero, List.set_cons_succ, i64_w, i32_w]
            rfl
          refine one_ (i := 7) (N := some 27) #[true, true, true, true, true, true, true, true, false] rfl rfl (one_of HT_.out (by kernel_rfl)) (by decide) (fun K hK => ?_)
          refine goes_ Try.func43 (by kernel_rfl) rfl #[.agg #[.int .i64 a0_0, .slice A0_1 l0_1.length c0_1, .slice (some ad276) l0_2.length c0_2], .slice A1 l1.length c1, .agg #[.int .i64 ((rd_T31 l0_2 a2).f0), .int .i64 ((rd_T31 l0_2 a2).f1), .int .i64 ((rd_T31 l0_2 a2).f2), .int .i64 ((rd_T31 l0_2 a2).f3), .int .i64 ((rd_T31 l0_2 a2).f4), .int .i64 ((rd_T31 l0_2 a2).f5)]] (by rfl) rfl rfl (by (try simp only [List.map_toArray, List.map_cons, List.map_nil]); first | done | rfl | (simp only [List.length_drop, List.length_take]; rfl)) ?_
          with_reducible refine (railplanref11_Lasts.calls a0_0 _ _ l0_1 _ _ l0_2 _ _ l1 ((rd_T31 l0_2 a2).f0) ((rd_T31 l0_2 a2).f1) ((rd_T31 l0_2 a2).f2) ((rd_T31 l0_2 a2).f3) ((rd_T31 l0_2 a2).f4) ((rd_T31 l0_2 a2).f5) t277 _ ?side1 ?side2 ?side3 ?side4 ?side5 ?side6 A10.out).mono ?_
          (case side1 => repeat (first | exact (Kd.C_below HR0_1.out HB.out) | (with_reducible refine Kd.C_alloc ?_ _) | (with_reducible refine Kd.C_drewN ?_ _) | (with_reducible refine Kd.C_drew ?_)))
          (case side2 => exact HC0_1.out)
          (case side3 => repeat (first | exact (Kd.C_below HR0_2.out HB.out) | (with_reducible refine Kd.C_alloc ?_ _) | (with_reducible refine Kd.C_drewN ?_ _) | (with_reducible refine Kd.C_drew ?_)))
          (case side4 => exact HC0_2.out)
          (case side5 => repeat (first | exact (Kd.C_below HR1.out HB.out) | (with_reducible refine Kd.C_alloc ?_ _) | (with_reducible refine Kd.C_drewN ?_ _) | (with_reducible refine Kd.C_drew ?_)))
          (case side6 => exact HC1.out)
          rintro e w16 ⟨rfl, hb⟩
          refine ⟨_, rfl, ?_⟩
          have n0_ := Aside0.mk (blk_below (g := gb273) (o := .cells #[.int .i64 a0_0, .slice A0_1 l0_1.length c0_1, .slice (some ad276) l0_2.length c0_2] 26 (0, 0)) (by (with_reducible repeat (first | refine blk_drewN ?_ _ | refine blk_drew ?_ | refine blk_alloc ?_ _)); exact BK273.out) hb)
          have n1_ := Aside0.mk (below_step (by repeat (first | (with_reducible first | exact HB.out | apply below_alloc | apply pw_below_drewN | apply below_drew1 | refine below_set ?_ GE273.out) | exact HB.out)) hb)
          clear BK273
          clear HB
          have BK273 := n0_
          have HB := n1_
          clear n0_ n1_
          (try clear hb)
          (try clear hb2)
          (try clear hk)
          (try clear hi)
          refine hK.out _ _ ⟨(blk_cell BK273.out 0).trans rfl, (blk_cell BK273.out 1).trans rfl, (blk_cell BK273.out 2).trans rfl, ((HB.out.cell (World.block_lt_of_cell? w _ hw276_0)).trans hw276_0), ((HB.out.cell (World.block_lt_of_cell? w _ hw276_1)).trans hw276_1), ((HB.out.cell (World.block_lt_of_cell? w _ hw276_2)).trans hw276_2), ((HB.out.cell (World.block_lt_of_cell? w _ hw276_3)).trans hw276_3), ((HB.out.cell (World.block_lt_of_cell? w _ hw276_4)).trans hw276_4), ((HB.out.cell (World.block_lt_of_cell? w _ hw276_5)).trans hw276_5)⟩ (fun hHeld => ?_)
          clear hK K
          refine norm_ (a' := ?_) ?_ ?_
          rotate_left
          · show Act.put _ (some 27) _ = _
            simp only [Act.put, List.setIfInBounds_toArray, List.set_cons_zero, List.set_cons_succ, i64_w, i32_w]
            rfl
          refine pure_ (i := 8) (N := some 6) (v := ?_) (a' := ?_) #[true, true, true, true, true, true, true, true, true] rfl rfl (any_of HT_.out (by kernel_rfl)) (fun _ _ _ h => h) (Or.inl ⟨by rfl, ?_⟩) ?_ ?_
          rotate_left
          · intro w'
            go_simp
            with_reducible rfl
          rotate_left
          · simp only [Act.put, List.setIfInBounds_toArray, List.set_cons_zero, List.set_cons_succ, i64_w, i32_w]
            rfl
          refine done_ (done_of HT_.out (by kernel_rfl)) ?_
          try go_wp2
          go_ret
          exact ⟨by first | rfl | (simp [errW_none, errW_some] <;> rfl) | (simp [*, errW_none, errW_some] <;> rfl), by repeat (first | (with_reducible first | exact HB.out | apply below_alloc | apply pw_below_drewN | apply below_drew1 | refine below_set ?_ GE273.out) | exact HB.out)⟩
        · rw [if_neg c9] at H
          exact absurd H (by simp)
      · rw [if_neg c8] at H
        exact absurd H (by simp)
    · replace c7 := Bool.eq_false_iff.mpr c7
      subst c7
      have H1 : (some 0) = some r := by rw [if_neg (show ¬ (false = true) by decide)] at H; exact H
      clear H
      have H := H1
      clear H1
      obtain rfl := Option.some.inj H
      go_enter Try.func35, Try.ntmps35
      go_wp2_with (first | ((with_reducible refine gate_dst (N := 3) rfl ?_); (try (refine gate_guard (by rfl) ?_; dsimp only)); refine box_event ?hg (N := 3) ?hd (cs := #[.int .i64 a0_0, .slice A0_1 l0_1.length c0_1, .slice A0_2 l0_2.length c0_2]) (t := 26) ?hr ?_; (case hd => rfl); (case hg => rfl); (case hr => first | (go_simp; done) | (go_simp; rfl)); intro gb273 hg w17 hbox hb; have n0_ := Aside0.mk (below_step (by repeat (first | (with_reducible first | exact HB.out | apply below_alloc | apply pw_below_drewN | apply below_drew1) | exact HB.out)) hb); have n1_ := Aside0.mk (hbox); have n2_ := Aside0.mk ((by rw [hg]; exact (below_size (by repeat (first | (with_reducible first | exact HB.out | apply below_alloc | apply pw_below_drewN | apply below_drew1) | exact HB.out))) : w.heap.size ≤ gb273)); have n3_ := Aside0.mk ((by rw [hg]; exact (below_size (by repeat (first | (with_reducible first | exact HB.out | apply below_alloc | apply pw_below_drewN | apply below_drew1) | exact HB.out))) : w.heap.size ≤ gb273)); clear HB; have HB := n0_; have BK273 := n1_; have GW273 := n2_; have GE273 := n3_; clear n0_ n1_ n2_ n3_; clear hb hbox hg; have hcz18_0 : w17.cell? ⟨gb273, 0, none⟩ = some (.int .i64 a0_0) := (blk_cell BK273.out 0).trans rfl; have hcz18_1 : w17.cell? ⟨gb273, 1, none⟩ = some (.slice A0_1 l0_1.length c0_1) := (blk_cell BK273.out 1).trans rfl; have hcz18_2 : w17.cell? ⟨gb273, 2, none⟩ = some (.slice A0_2 l0_2.length c0_2) := (blk_cell BK273.out 2).trans rfl; have hfz18_0 := blk_frozen BK273.out 0; have hfz18_1 := blk_frozen BK273.out 1; have hfz18_2 := blk_frozen BK273.out 2) | ((with_reducible refine gate_callee (f := 34) rfl ?_); refine goesL_ (some 9) rfl rfl Try.func34 (by kernel_rfl) rfl #[.agg #[.int .i64 a0_0, .slice A0_1 l0_1.length c0_1, .slice A0_2 l0_2.length c0_2], .slice A1 l1.length c1] rfl (by (try simp only [List.map_toArray, List.map_cons, List.map_nil]); first | done | rfl | (simp only [List.length_drop, List.length_take]; rfl)) ?_; (with_reducible refine (railplanref11_Good.calls k a0_0 _ _ l0_1 _ _ l0_2 _ _ l1 true _ ?side1 ?side2 ?side3 ?side4 ?side5 ?side6 A4.out).mono ?_); (case side1 => repeat (first | exact (Kd.C_below HR0_1.out HB.out) | (with_reducible refine Kd.C_alloc ?_ _) | (with_reducible refine Kd.C_drewN ?_ _) | (with_reducible refine Kd.C_drew ?_))); (case side2 => exact HC0_1.out); (case side3 => repeat (first | exact (Kd.C_below HR0_2.out HB.out) | (with_reducible refine Kd.C_alloc ?_ _) | (with_reducible refine Kd.C_drewN ?_ _) | (with_reducible refine Kd.C_drew ?_))); (case side4 => exact HC0_2.out); (case side5 => repeat (first | exact (Kd.C_below HR1.out HB.out) | (with_reducible refine Kd.C_alloc ?_ _) | (with_reducible refine Kd.C_drewN ?_ _) | (with_reducible refine Kd.C_drew ?_))); (case side6 => exact HC1.out); rintro e w19 ⟨rfl, hb⟩; refine ⟨_, rfl, ?_⟩; have n0_ := Aside0.mk (blk_below (g := gb273) (o := .cells #[.int .i64 a0_0, .slice A0_1 l0_1.length c0_1, .slice A0_2 l0_2.length c0_2] 26 (0, 0)) (by (with_reducible repeat (first | refine blk_drewN ?_ _ | refine blk_drew ?_ | refine blk_alloc ?_ _)); exact BK273.out) hb); have n1_ := Aside0.mk (below_step (by repeat (first | (with_reducible first | exact HB.out | apply below_alloc | apply pw_below_drewN | apply below_drew1 | refine below_set ?_ GE273.out) | exact HB.out)) hb); clear BK273; clear HB; have BK273 := n0_; have HB := n1_; clear n0_ n1_; (try clear hb); (try clear hb2); (try clear hk); (try clear hi); have hcz20_0 : w19.cell? ⟨gb273, 0, none⟩ = some (.int .i64 a0_0) := (blk_cell BK273.out 0).trans rfl; have hcz20_1 : w19.cell? ⟨gb273, 1, none⟩ = some (.slice A0_1 l0_1.length c0_1) := (blk_cell BK273.out 1).trans rfl; have hcz20_2 : w19.cell? ⟨gb273, 2, none⟩ = some (.slice A0_2 l0_2.length c0_2) := (blk_cell BK273.out 2).trans rfl; have hfz20_0 := blk_frozen BK273.out 0; have hfz20_1 := blk_frozen BK273.out 1; have hfz20_2 := blk_frozen BK273.out 2) | (go_at_call 28; (with_reducible refine (railplanref11_in.calls a2 0 (wrap64 ((l0_2.length : Int) - 1)) false _ A6.out).mono ?_); rintro e w' ⟨rfl, ⟨nd, rfl⟩⟩))
      go_ret
      exact ⟨by first | rfl | (simp [errW_none, errW_some] <;> rfl) | (simp [*, errW_none, errW_some] <;> rfl), by repeat (first | (with_reducible first | exact HB.out | apply below_alloc | apply pw_below_drewN | apply below_drew1 | refine below_set ?_ GE273.out) | exact HB.out)⟩
  · replace c5 := Bool.eq_false_iff.mpr c5
    subst c5
    have H1 : (some 0) = some r := by rw [if_neg (show ¬ (false = true) by decide)] at H; exact H
    clear H
    have H := H1
    clear H1
    obtain rfl := Option.some.inj H
    go_enter Try.func35, Try.ntmps35
    go_wp2_with (first | ((with_reducible refine gate_dst (N := 3) rfl ?_); (try (refine gate_guard (by rfl) ?_; dsimp only)); refine box_event ?hg (N := 3) ?hd (cs := #[.int .i64 a0_0, .slice A0_1 l0_1.length c0_1, .slice A0_2 l0_2.length c0_2]) (t := 26) ?hr ?_; (case hd => rfl); (case hg => rfl); (case hr => first | (go_simp; done) | (go_simp; rfl)); intro gb273 hg w21 hbox hb; have n0_ := Aside0.mk (below_step (by repeat (first | (with_reducible first | exact HB.out | apply below_alloc | apply pw_below_drewN | apply below_drew1) | exact HB.out)) hb); have n1_ := Aside0.mk (hbox); have n2_ := Aside0.mk ((by rw [hg]; exact (below_size (by repeat (first | (with_reducible first | exact HB.out | apply below_alloc | apply pw_below_drewN | apply below_drew1) | exact HB.out))) : w.heap.size ≤ gb273)); have n3_ := Aside0.mk ((by rw [hg]; exact (below_size (by repeat (first | (with_reducible first | exact HB.out | apply below_alloc | apply pw_below_drewN | apply below_drew1) | exact HB.out))) : w.heap.size ≤ gb273)); clear HB; have HB := n0_; have BK273 := n1_; have GW273 := n2_; have GE273 := n3_; clear n0_ n1_ n2_ n3_; clear hb hbox hg; have hcz22_0 : w21.cell? ⟨gb273, 0, none⟩ = some (.int .i64 a0_0) := (blk_cell BK273.out 0).trans rfl; have hcz22_1 : w21.cell? ⟨gb273, 1, none⟩ = some (.slice A0_1 l0_1.length c0_1) := (blk_cell BK273.out 1).trans rfl; have hcz22_2 : w21.cell? ⟨gb273, 2, none⟩ = some (.slice A0_2 l0_2.length c0_2) := (blk_cell BK273.out 2).trans rfl; have hfz22_0 := blk_frozen BK273.out 0; have hfz22_1 := blk_frozen BK273.out 1; have hfz22_2 := blk_frozen BK273.out 2) | ((with_reducible refine gate_callee (f := 34) rfl ?_); refine goesL_ (some 9) rfl rfl Try.func34 (by kernel_rfl) rfl #[.agg #[.int .i64 a0_0, .slice A0_1 l0_1.length c0_1, .slice A0_2 l0_2.length c0_2], .slice A1 l1.length c1] rfl (by (try simp only [List.map_toArray, List.map_cons, List.map_nil]); first | done | rfl | (simp only [List.length_drop, List.length_take]; rfl)) ?_; (with_reducible refine (railplanref11_Good.calls k a0_0 _ _ l0_1 _ _ l0_2 _ _ l1 false _ ?side1 ?side2 ?side3 ?side4 ?side5 ?side6 A4.out).mono ?_); (case side1 => repeat (first | exact (Kd.C_below HR0_1.out HB.out) | (with_reducible refine Kd.C_alloc ?_ _) | (with_reducible refine Kd.C_drewN ?_ _) | (with_reducible refine Kd.C_drew ?_))); (case side2 => exact HC0_1.out); (case side3 => repeat (first | exact (Kd.C_below HR0_2.out HB.out) | (with_reducible refine Kd.C_alloc ?_ _) | (with_reducible refine Kd.C_drewN ?_ _) | (with_reducible refine Kd.C_drew ?_))); (case side4 => exact HC0_2.out); (case side5 => repeat (first | exact (Kd.C_below HR1.out HB.out) | (with_reducible refine Kd.C_alloc ?_ _) | (with_reducible refine Kd.C_drewN ?_ _) | (with_reducible refine Kd.C_drew ?_))); (case side6 => exact HC1.out); rintro e w23 ⟨rfl, hb⟩; refine ⟨_, rfl, ?_⟩; have n0_ := Aside0.mk (blk_below (g := gb273) (o := .cells #[.int .i64 a0_0, .slice A0_1 l0_1.length c0_1, .slice A0_2 l0_2.length c0_2] 26 (0, 0)) (by (with_reducible repeat (first | refine blk_drewN ?_ _ | refine blk_drew ?_ | refine blk_alloc ?_ _)); exact BK273.out) hb); have n1_ := Aside0.mk (below_step (by repeat (first | (with_reducible first | exact HB.out | apply below_alloc | apply pw_below_drewN | apply below_drew1 | refine below_set ?_ GE273.out) | exact HB.out)) hb); clear BK273; clear HB; have BK273 := n0_; have HB := n1_; clear n0_ n1_; (try clear hb); (try clear hb2); (try clear hk); (try clear hi)))
    go_ret
    exact ⟨by first | rfl | (simp [errW_none, errW_some] <;> rfl) | (simp [*, errW_none, errW_some] <;> rfl), by repeat (first | (with_reducible first | exact HB.out | apply below_alloc | apply pw_below_drewN | apply below_drew1 | refine below_set ?_ GE273.out) | exact HB.out)⟩

/-! ### railplanref11_Feasible: function 36 -/
def railplanref11_Feasible.f (k : Nat) (a0_0 : Int) (l0_1 : List (S46)) (l0_2 : List (S31)) (l1 : List Int) : Option (Bool) := (railplanref11_First.f k a0_0 l0_1 l0_2 l1).bind fun bt279 => ((railplanref11_Good.f k a0_0 l0_1 l0_2 l1).bind fun t281 => (if t281 = true then (some (!bt279.2)) else (some false)))
theorem railplanref11_Feasible.mono : ∀ a0 a1 a2 a3 k, LeO (railplanref11_Feasible.f k a0 a1 a2 a3) (railplanref11_Feasible.f (k + 1) a0 a1 a2 a3) := by
  intro a0 a1 a2 a3 k
  unfold railplanref11_Feasible.f
  repeat' first
      | (with_reducible exact railplanref11_First.mono _ _ _ _ _)
      | (with_reducible exact railplanref11_Good.mono _ _ _ _ _)
      | (with_reducible exact LeO.refl _)
      | (with_reducible exact LeO.none _)
      | (with_reducible refine LeO.ite ?_ ?_)
      | (with_reducible refine LeO.bind ?_ (fun _ => ?_))
      | exact railplanref11_First.mono _ _ _ _ _
      | exact railplanref11_Good.mono _ _ _ _ _
      | exact LeO.none _
      | refine LeO.ite ?_ ?_
      | refine LeO.bind ?_ (fun _ => ?_)
set_option maxHeartbeats 8000000 in
set_option maxRecDepth 100000 in
theorem railplanref11_Feasible.calls (k : Nat) (a0_0 : Int) (A0_1 : Option Addr) (c0_1 : Nat) (l0_1 : List (S46)) (A0_2 : Option Addr) (c0_2 : Nat) (l0_2 : List (S31)) (A1 : Option Addr) (c1 : Nat) (l1 : List Int) (r : Bool) (w : World) (hr0_1 : Kd.C k46 w A0_1 l0_1.length l0_1) (hc0_1 : l0_1.length ≤ c0_1) (hr0_2 : Kd.C k31 w A0_2 l0_2.length l0_2) (hc0_2 : l0_2.length ≤ c0_2) (hr1 : Kd.C (Kd.int .i64) w A1 l1.length l1) (hc1 : l1.length ≤ c1) (h : railplanref11_Feasible.f k a0_0 l0_1 l0_2 l1 = some r) :
    Calls Try.prog 36 #[.agg #[.int .i64 a0_0, .slice A0_1 l0_1.length c0_1, .slice A0_2 l0_2.length c0_2], .slice A1 l1.length c1] w fun e w' => e = .returned (.bool r) ∧ Below w.heap.size w w' := by
  have hu26 := Try.underlying26
  have HR0_1 := Aside0.mk hr0_1
  have HC0_1 := Aside0.mk hc0_1
  clear hr0_1 hc0_1
  have HR0_2 := Aside0.mk hr0_2
  have HC0_2 := Aside0.mk hc0_2
  clear hr0_2 hc0_2
  have HR1 := Aside0.mk hr1
  have HC1 := Aside0.mk hc1
  clear hr1 hc1
  have HB := Aside0.mk (Below.refl w.heap.size w)
  have H : ((railplanref11_First.f k a0_0 l0_1 l0_2 l1).bind fun bt279 => ((railplanref11_Good.f k a0_0 l0_1 l0_2 l1).bind fun t281 => (if t281 = true then (some (!bt279.2)) else (some false)))) = some r := h
  clear h
  replace H := Option.bind_eq_some_iff.mp H
  obtain ⟨⟨t279, t280⟩, A30, H⟩ := H
  replace H : ((railplanref11_Good.f k a0_0 l0_1 l0_2 l1).bind fun t281 => (if t281 = true then (some (!t280)) else (some false))) = some r := H
  have A3 := Aside0.mk A30
  clear A30
  replace H := Option.bind_eq_some_iff.mp H
  obtain ⟨t281, A40, H⟩ := H
  replace H : (if t281 = true then (some (!t280)) else (some false)) = some r := H
  have A4 := Aside0.mk A40
  clear A40
  by_cases c5 : t281 = true
  · subst c5
    have H1 : (some (!t280)) = some r := by rw [if_pos rfl] at H; exact H
    clear H
    have H := H1
    clear H1
    obtain rfl := Option.some.inj H
    go_enter Try.func36, Try.ntmps36
    go_wp2_with (first | ((with_reducible refine gate_dst (N := 2) rfl ?_); refine box_event ?hg (N := 2) ?hd (cs := #[.int .i64 a0_0, .slice A0_1 l0_1.length c0_1, .slice A0_2 l0_2.length c0_2]) (t := 26) ?hr ?_; (case hd => rfl); (case hg => rfl); (case hr => first | (go_simp; done) | (go_simp; rfl)); intro gb278 hg w6 hbox hb; have n0_ := Aside0.mk (below_step (by repeat (first | (with_reducible first | exact HB.out | apply below_alloc | apply pw_below_drewN | apply below_drew1) | exact HB.out)) hb); have n1_ := Aside0.mk (hbox); have n2_ := Aside0.mk ((by rw [hg]; exact (below_size (by repeat (first | (with_reducible first | exact HB.out | apply below_alloc | apply pw_below_drewN | apply below_drew1) | exact HB.out))) : w.heap.size ≤ gb278)); have n3_ := Aside0.mk ((by rw [hg]; exact (below_size (by repeat (first | (with_reducible first | exact HB.out | apply below_alloc | apply pw_below_drewN | apply below_drew1) | exact HB.out))) : w.heap.size ≤ gb278)); clear HB; have HB := n0_; have BK278 := n1_; have GW278 := n2_; have GE278 := n3_; clear n0_ n1_ n2_ n3_; clear hb hbox hg; have hcz7_0 : w6.cell? ⟨gb278, 0, none⟩ = some (.int .i64 a0_0) := (blk_cell BK278.out 0).trans rfl; have hcz7_1 : w6.cell? ⟨gb278, 1, none⟩ = some (.slice A0_1 l0_1.length c0_1) := (blk_cell BK278.out 1).trans rfl; have hcz7_2 : w6.cell? ⟨gb278, 2, none⟩ = some (.slice A0_2 l0_2.length c0_2) := (blk_cell BK278.out 2).trans rfl; have hfz7_0 := blk_frozen BK278.out 0; have hfz7_1 := blk_frozen BK278.out 1; have hfz7_2 := blk_frozen BK278.out 2) | ((with_reducible refine gate_callee (f := 32) rfl ?_); refine goesL_ (some 10) rfl rfl Try.func32 (by kernel_rfl) rfl #[.agg #[.int .i64 a0_0, .slice A0_1 l0_1.length c0_1, .slice A0_2 l0_2.length c0_2], .slice A1 l1.length c1] rfl (by (try simp only [List.map_toArray, List.map_cons, List.map_nil]); first | done | rfl | (simp only [List.length_drop, List.length_take]; rfl)) ?_; (with_reducible refine (railplanref11_First.calls k a0_0 _ _ l0_1 _ _ l0_2 _ _ l1 t279 t280 _ ?side1 ?side2 ?side3 ?side4 ?side5 ?side6 A3.out).mono ?_); (case side1 => repeat (first | exact (Kd.C_below HR0_1.out HB.out) | (with_reducible refine Kd.C_alloc ?_ _) | (with_reducible refine Kd.C_drewN ?_ _) | (with_reducible refine Kd.C_drew ?_))); (case side2 => exact HC0_1.out); (case side3 => repeat (first | exact (Kd.C_below HR0_2.out HB.out) | (with_reducible refine Kd.C_alloc ?_ _) | (with_reducible refine Kd.C_drewN ?_ _) | (with_reducible refine Kd.C_drew ?_))); (case side4 => exact HC0_2.out); (case side5 => repeat (first | exact (Kd.C_below HR1.out HB.out) | (with_reducible refine Kd.C_alloc ?_ _) | (with_reducible refine Kd.C_drewN ?_ _) | (with_reducible refine Kd.C_drew ?_))); (case side6 => exact HC1.out); rintro e w8 ⟨rfl, hb⟩; refine ⟨_, rfl, ?_⟩; have n0_ := Aside0.mk (blk_below (g := gb278) (o := .cells #[.int .i64 a0_0, .slice A0_1 l0_1.length c0_1, .slice A0_2 l0_2.length c0_2] 26 (0, 0)) (by (with_reducible repeat (first | refine blk_drewN ?_ _ | refine blk_drew ?_ | refine blk_alloc ?_ _)); exact BK278.out) hb); have n1_ := Aside0.mk (below_step (by repeat (first | (with_reducible first | exact HB.out | apply below_alloc | apply pw_below_drewN | apply below_drew1 | refine below_set ?_ GE278.out) | exact HB.out)) hb); clear BK278; clear HB; have BK278 := n0_; have HB := n1_; clear n0_ n1_; (try clear hb); (try clear hb2); (try clear hk); (try clear hi); have hcz9_0 : w8.cell? ⟨gb278, 0, none⟩ = some (.int .i64 a0_0) := (blk_cell BK278.out 0).trans rfl; have hcz9_1 : w8.cell? ⟨gb278, 1, none⟩ = some (.slice A0_1 l0_1.length c0_1) := (blk_cell BK278.out 1).trans rfl; have hcz9_2 : w8.cell? ⟨gb278, 2, none⟩ = some (.slice A0_2 l0_2.length c0_2) := (blk_cell BK278.out 2).trans rfl; have hfz9_0 := blk_frozen BK278.out 0; have hfz9_1 := blk_frozen BK278.out 1; have hfz9_2 := blk_frozen BK278.out 2) | ((with_reducible refine gate_callee (f := 34) rfl ?_); refine goesL_ (some 15) rfl rfl Try.func34 (by kernel_rfl) rfl #[.agg #[.int .i64 a0_0, .slice A0_1 l0_1.length c0_1, .slice A0_2 l0_2.length c0_2], .slice A1 l1.length c1] rfl (by (try simp only [List.map_toArray, List.map_cons, List.map_nil]); first | done | rfl | (simp only [List.length_drop, List.length_take]; rfl)) ?_; (with_reducible refine (railplanref11_Good.calls k a0_0 _ _ l0_1 _ _ l0_2 _ _ l1 true _ ?side1 ?side2 ?side3 ?side4 ?side5 ?side6 A4.out).mono ?_); (case side1 => repeat (first | exact (Kd.C_below HR0_1.out HB.out) | (with_reducible refine Kd.C_alloc ?_ _) | (with_reducible refine Kd.C_drewN ?_ _) | (with_reducible refine Kd.C_drew ?_))); (case side2 => exact HC0_1.out); (case side3 => repeat (first | exact (Kd.C_below HR0_2.out HB.out) | (with_reducible refine Kd.C_alloc ?_ _) | (with_reducible refine Kd.C_drewN ?_ _) | (with_reducible refine Kd.C_drew ?_))); (case side4 => exact HC0_2.out); (case side5 => repeat (first | exact (Kd.C_below HR1.out HB.out) | (with_reducible refine Kd.C_alloc ?_ _) | (with_reducible refine Kd.C_drewN ?_ _) | (with_reducible refine Kd.C_drew ?_))); (case side6 => exact HC1.out); rintro e w10 ⟨rfl, hb⟩; refine ⟨_, rfl, ?_⟩; have n0_ := Aside0.mk (blk_below (g := gb278) (o := .cells #[.int .i64 a0_0, .slice A0_1 l0_1.length c0_1, .slice A0_2 l0_2.length c0_2] 26 (0, 0)) (by (with_reducible repeat (first | refine blk_drewN ?_ _ | refine blk_drew ?_ | refine blk_alloc ?_ _)); exact BK278.out) hb); have n1_ := Aside0.mk (below_step (by repeat (first | (with_reducible first | exact HB.out | apply below_alloc | apply pw_below_drewN | apply below_drew1 | refine below_set ?_ GE278.out) | exact HB.out)) hb); clear BK278; clear HB; have BK278 := n0_; have HB := n1_; clear n0_ n1_; (try clear hb); (try clear hb2); (try clear hk); (try clear hi)))
    go_ret
    exact ⟨by first | rfl | (simp [errW_none, errW_some] <;> rfl) | (simp [*, errW_none, errW_some] <;> rfl), by repeat (first | (with_reducible first | exact HB.out | apply below_alloc | apply pw_below_drewN | apply below_drew1 | refine below_set ?_ GE278.out) | exact HB.out)⟩
  · replace c5 := Bool.eq_false_iff.mpr c5
    subst c5
    have H1 : (some false) = some r := by rw [if_neg (show ¬ (false = true) by decide)] at H; exact H
    clear H
    have H := H1
    clear H1
    obtain rfl := Option.some.inj H
    go_enter Try.func36, Try.ntmps36
    go_wp2_with (first | ((with_reducible refine gate_dst (N := 2) rfl ?_); refine box_event ?hg (N := 2) ?hd (cs := #[.int .i64 a0_0, .slice A0_1 l0_1.length c0_1, .slice A0_2 l0_2.length c0_2]) (t := 26) ?hr ?_; (case hd => rfl); (case hg => rfl); (case hr => first | (go_simp; done) | (go_simp; rfl)); intro gb278 hg w11 hbox hb; have n0_ := Aside0.mk (below_step (by repeat (first | (with_reducible first | exact HB.out | apply below_alloc | apply pw_below_drewN | apply below_drew1) | exact HB.out)) hb); have n1_ := Aside0.mk (hbox); have n2_ := Aside0.mk ((by rw [hg]; exact (below_size (by repeat (first | (with_reducible first | exact HB.out | apply below_alloc | apply pw_below_drewN | apply below_drew1) | exact HB.out))) : w.heap.size ≤ gb278)); have n3_ := Aside0.mk ((by rw [hg]; exact (below_size (by repeat (first | (with_reducible first | exact HB.out | apply below_alloc | apply pw_below_drewN | apply below_drew1) | exact HB.out))) : w.heap.size ≤ gb278)); clear HB; have HB := n0_; have BK278 := n1_; have GW278 := n2_; have GE278 := n3_; clear n0_ n1_ n2_ n3_; clear hb hbox hg; have hcz12_0 : w11.cell? ⟨gb278, 0, none⟩ = some (.int .i64 a0_0) := (blk_cell BK278.out 0).trans rfl; have hcz12_1 : w11.cell? ⟨gb278, 1, none⟩ = some (.slice A0_1 l0_1.length c0_1) := (blk_cell BK278.out 1).trans rfl; have hcz12_2 : w11.cell? ⟨gb278, 2, none⟩ = some (.slice A0_2 l0_2.length c0_2) := (blk_cell BK278.out 2).trans rfl; have hfz12_0 := blk_frozen BK278.out 0; have hfz12_1 := blk_frozen BK278.out 1; have hfz12_2 := blk_frozen BK278.out 2) | ((with_reducible refine gate_callee (f := 32) rfl ?_); refine goesL_ (some 10) rfl rfl Try.func32 (by kernel_rfl) rfl #[.agg #[.int .i64 a0_0, .slice A0_1 l0_1.length c0_1, .slice A0_2 l0_2.length c0_2], .slice A1 l1.length c1] rfl (by (try simp only [List.map_toArray, List.map_cons, List.map_nil]); first | done | rfl | (simp only [List.length_drop, List.length_take]; rfl)) ?_; (with_reducible refine (railplanref11_First.calls k a0_0 _ _ l0_1 _ _ l0_2 _ _ l1 t279 t280 _ ?side1 ?side2 ?side3 ?side4 ?side5 ?side6 A3.out).mono ?_); (case side1 => repeat (first | exact (Kd.C_below HR0_1.out HB.out) | (with_reducible refine Kd.C_alloc ?_ _) | (with_reducible refine Kd.C_drewN ?_ _) | (with_reducible refine Kd.C_drew ?_))); (case side2 => exact HC0_1.out); (case side3 => repeat (first | exact (Kd.C_below HR0_2.out HB.out) | (with_reducible refine Kd.C_alloc ?_ _) | (with_reducible refine Kd.C_drewN ?_ _) | (with_reducible refine Kd.C_drew ?_))); (case side4 => exact HC0_2.out); (case side5 => repeat (first | exact (Kd.C_below HR1.out HB.out) | (with_reducible refine Kd.C_alloc ?_ _) | (with_reducible refine Kd.C_drewN ?_ _) | (with_reducible refine Kd.C_drew ?_))); (case side6 => exact HC1.out); rintro e w13 ⟨rfl, hb⟩; refine ⟨_, rfl, ?_⟩; have n0_ := Aside0.mk (blk_below (g := gb278) (o := .cells #[.int .i64 a0_0, .slice A0_1 l0_1.length c0_1, .slice A0_2 l0_2.length c0_2] 26 (0, 0)) (by (with_reducible repeat (first | refine blk_drewN ?_ _ | refine blk_drew ?_ | refine blk_alloc ?_ _)); exact BK278.out) hb); have n1_ := Aside0.mk (below_step (by repeat (first | (with_reducible first | exact HB.out | apply below_alloc | apply pw_below_drewN | apply below_drew1 | refine below_set ?_ GE278.out) | exact HB.out)) hb); clear BK278; clear HB; have BK278 := n0_; have HB := n1_; clear n0_ n1_; (try clear hb); (try clear hb2); (try clear hk); (try clear hi); have hcz14_0 : w13.cell? ⟨gb278, 0, none⟩ = some (.int .i64 a0_0) := (blk_cell BK278.out 0).trans rfl; have hcz14_1 : w13.cell? ⟨gb278, 1, none⟩ = some (.slice A0_1 l0_1.length c0_1) := (blk_cell BK278.out 1).trans rfl; have hcz14_2 : w13.cell? ⟨gb278, 2, none⟩ = some (.slice A0_2 l0_2.length c0_2) := (blk_cell BK278.out 2).trans rfl; have hfz14_0 := blk_frozen BK278.out 0; have hfz14_1 := blk_frozen BK278.out 1; have hfz14_2 := blk_frozen BK278.out 2) | ((with_reducible refine gate_callee (f := 34) rfl ?_); refine goesL_ (some 15) rfl rfl Try.func34 (by kernel_rfl) rfl #[.agg #[.int .i64 a0_0, .slice A0_1 l0_1.length c0_1, .slice A0_2 l0_2.length c0_2], .slice A1 l1.length c1] rfl (by (try simp only [List.map_toArray, List.map_cons, List.map_nil]); first | done | rfl | (simp only [List.length_drop, List.length_take]; rfl)) ?_; (with_reducible refine (railplanref11_Good.calls k a0_0 _ _ l0_1 _ _ l0_2 _ _ l1 false _ ?side1 ?side2 ?side3 ?side4 ?side5 ?side6 A4.out).mono ?_); (case side1 => repeat (first | exact (Kd.C_below HR0_1.out HB.out) | (with_reducible refine Kd.C_alloc ?_ _) | (with_reducible refine Kd.C_drewN ?_ _) | (with_reducible refine Kd.C_drew ?_))); (case side2 => exact HC0_1.out); (case side3 => repeat (first | exact (Kd.C_below HR0_2.out HB.out) | (with_reducible refine Kd.C_alloc ?_ _) | (with_reducible refine Kd.C_drewN ?_ _) | (with_reducible refine Kd.C_drew ?_))); (case side4 => exact HC0_2.out); (case side5 => repeat (first | exact (Kd.C_below HR1.out HB.out) | (with_reducible refine Kd.C_alloc ?_ _) | (with_reducible refine Kd.C_drewN ?_ _) | (with_reducible refine Kd.C_drew ?_))); (case side6 => exact HC1.out); rintro e w15 ⟨rfl, hb⟩; refine ⟨_, rfl, ?_⟩; have n0_ := Aside0.mk (blk_below (g := gb278) (o := .cells #[.int .i64 a0_0, .slice A0_1 l0_1.length c0_1, .slice A0_2 l0_2.length c0_2] 26 (0, 0)) (by (with_reducible repeat (first | refine blk_drewN ?_ _ | refine blk_drew ?_ | refine blk_alloc ?_ _)); exact BK278.out) hb); have n1_ := Aside0.mk (below_step (by repeat (first | (with_reducible first | exact HB.out | apply below_alloc | apply pw_below_drewN | apply below_drew1 | refine below_set ?_ GE278.out) | exact HB.out)) hb); clear BK278; clear HB; have BK278 := n0_; have HB := n1_; clear n0_ n1_; (try clear hb); (try clear hb2); (try clear hk); (try clear hi)))
    go_ret
    exact ⟨by first | rfl | (simp [errW_none, errW_some] <;> rfl) | (simp [*, errW_none, errW_some] <;> rfl), by repeat (first | (with_reducible first | exact HB.out | apply below_alloc | apply pw_below_drewN | apply below_drew1 | refine below_set ?_ GE278.out) | exact HB.out)⟩

/-! ### railplanref11_Index: function 37 -/
def railplanref11_Index.l0 : Nat → Int → Int → List (S46) → List (S31) → Int → Int → Int → Option (Int)
  | 0, _, _, _, _, _, _, _ => none
  | k + 1, x5, x283000, x283001, x283002, x284000, x284001, x284002 => if x5 < (x283001.length : Int) then (if 0 ≤ x5 then (if (((rd_T46 x283001 x5).f0) == x284000 && (((rd_T46 x283001 x5).f1) == x284001 && (((rd_T46 x283001 x5).f2) == x284002))) = true then (some x5) else (railplanref11_Index.l0 k (wrap64 (x5 + 1)) x283000 x283001 x283002 x284000 x284001 x284002)) else (none)) else (some (-1))
def railplanref11_Index.f (k : Nat) (a0_0 : Int) (l0_1 : List (S46)) (l0_2 : List (S31)) (a1_0 : Int) (a1_1 : Int) (a1_2 : Int) : Option (Int) := railplanref11_Index.l0 k 0 a0_0 l0_1 l0_2 a1_0 a1_1 a1_2
theorem railplanref11_Index.mono_l : ∀ k, (∀ y0 y1 y2 y3 y4 y5 y6, LeO (railplanref11_Index.l0 k y0 y1 y2 y3 y4 y5 y6) (railplanref11_Index.l0 (k + 1) y0 y1 y2 y3 y4 y5 y6))
  | 0 => fun _ _ _ _ _ _ _ r h => by simp [railplanref11_Index.l0] at h
  | k + 1 => by
    have ih0 := railplanref11_Index.mono_l k
    · intro y0 y1 y2 y3 y4 y5 y6
      unfold railplanref11_Index.l0
      repeat' first
      | (with_reducible exact ih0 _ _ _ _ _ _ _)
      | (with_reducible exact LeO.refl _)
      | (with_reducible exact LeO.none _)
      | (with_reducible refine LeO.ite ?_ ?_)
      | (with_reducible refine LeO.bind ?_ (fun _ => ?_))
      | exact ih0 _ _ _ _ _ _ _
      | exact LeO.none _
      | refine LeO.ite ?_ ?_
      | refine LeO.bind ?_ (fun _ => ?_)
theorem railplanref11_Index.mono : ∀ a0 a1 a2 a3 a4 a5 k, LeO (railplanref11_Index.f k a0 a1 a2 a3 a4 a5) (railplanref11_Index.f (k + 1) a0 a1 a2 a3 a4 a5) := by
  intro a0 a1 a2 a3 a4 a5 k
  have ih0 := railplanref11_Index.mono_l k
  unfold railplanref11_Index.f
  repeat' first
      | (with_reducible exact ih0 _ _ _ _ _ _ _)
      | (with_reducible exact LeO.refl _)
      | (with_reducible exact LeO.none _)
      | (with_reducible refine LeO.ite ?_ ?_)
      | (with_reducible refine LeO.bind ?_ (fun _ => ?_))
      | exact ih0 _ _ _ _ _ _ _
      | exact LeO.none _
      | refine LeO.ite ?_ ?_
      | refine LeO.bind ?_ (fun _ => ?_)
set_option maxHeartbeats 8000000 in
set_option maxRecDepth 100000 in
theorem railplanref11_Index.calls (k : Nat) (a0_0 : Int) (A0_1 : Option Addr) (c0_1 : Nat) (l0_1 : List (S46)) (A0_2 : Option Addr) (c0_2 : Nat) (l0_2 : List (S31)) (a1_0 : Int) (a1_1 : Int) (a1_2 : Int) (r : Int) (w : World) (hr0_1 : Kd.C k46 w A0_1 l0_1.length l0_1) (hc0_1 : l0_1.length ≤ c0_1) (hr0_2 : Kd.C k31 w A0_2 l0_2.length l0_2) (hc0_2 : l0_2.length ≤ c0_2) (h : railplanref11_Index.f k a0_0 l0_1 l0_2 a1_0 a1_1 a1_2 = some r) :
    Calls Try.prog 37 #[.agg #[.int .i64 a0_0, .slice A0_1 l0_1.length c0_1, .slice A0_2 l0_2.length c0_2], .agg #[.int .i64 a1_0, .int .i64 a1_1, .int .i64 a1_2]] w fun e w' => e = .returned (.int .i64 r) ∧ Below w.heap.size w w' := by
  have hu26 := Try.underlying26
  have hu46 := Try.underlying46
  have HR0_1 := Aside0.mk hr0_1
  have HC0_1 := Aside0.mk hc0_1
  clear hr0_1 hc0_1
  have HR0_2 := Aside0.mk hr0_2
  have HC0_2 := Aside0.mk hc0_2
  clear hr0_2 hc0_2
  have HB := Aside0.mk (Below.refl w.heap.size w)
  have H : (railplanref11_Index.l0 k 0 a0_0 l0_1 l0_2 a1_0 a1_1 a1_2) = some r := h
  clear h
  have H' := Aside0.mk H
  clear H
  go_enter Try.func37, Try.ntmps37
  go_wp2_with (first | ((with_reducible refine gate_dst (N := 2) rfl ?_); refine box_event ?hg (N := 2) ?hd (cs := #[.int .i64 a0_0, .slice A0_1 l0_1.length c0_1, .slice A0_2 l0_2.length c0_2]) (t := 26) ?hr ?_; (case hd => rfl); (case hg => rfl); (case hr => first | (go_simp; done) | (go_simp; rfl)); intro gb282 hg w3 hbox hb; have n0_ := Aside0.mk (below_step (by repeat (first | (with_reducible first | exact HB.out | apply below_alloc | apply pw_below_drewN | apply below_drew1) | exact HB.out)) hb); have n1_ := Aside0.mk (hbox); have n2_ := Aside0.mk ((by rw [hg]; exact (below_size (by repeat (first | (with_reducible first | exact HB.out | apply below_alloc | apply pw_below_drewN | apply below_drew1) | exact HB.out))) : w.heap.size ≤ gb282)); have n3_ := Aside0.mk ((by rw [hg]; exact (below_size (by repeat (first | (with_reducible first | exact HB.out | apply below_alloc | apply pw_below_drewN | apply below_drew1) | exact HB.out))) : w.heap.size ≤ gb282)); clear HB; have HB := n0_; have BK282 := n1_; have GW282 := n2_; have GE282 := n3_; clear n0_ n1_ n2_ n3_; clear hb hbox hg) | ((with_reducible refine gate_dst (N := 3) rfl ?_); refine box_event ?hg (N := 3) ?hd (cs := #[.int .i64 a1_0, .int .i64 a1_1, .int .i64 a1_2]) (t := 46) ?hr ?_; (case hd => rfl); (case hg => rfl); (case hr => first | (go_simp; done) | (go_simp; rfl)); intro gb283 hg w4 hbox hb; have n0_ := Aside0.mk (blk_below (g := gb282) (o := .cells #[.int .i64 a0_0, .slice A0_1 l0_1.length c0_1, .slice A0_2 l0_2.length c0_2] 26 (0, 0)) (by (with_reducible repeat (first | refine blk_drewN ?_ _ | refine blk_drew ?_ | refine blk_alloc ?_ _)); exact BK282.out) hb); have n1_ := Aside0.mk (below_step (by repeat (first | (with_reducible first | exact HB.out | apply below_alloc | apply pw_below_drewN | apply below_drew1 | refine below_set ?_ GE282.out) | exact HB.out)) hb); have n2_ := Aside0.mk (hbox); have n3_ := Aside0.mk ((by rw [hg]; exact (below_size (by repeat (first | (with_reducible first | exact HB.out | apply below_alloc | apply pw_below_drewN | apply below_drew1 | refine below_set ?_ GE282.out) | exact HB.out))) : w.heap.size ≤ gb283)); have n4_ := Aside0.mk ((by rw [hg]; exact (below_size (by repeat (first | (with_reducible first | exact HB.out | apply below_alloc | apply pw_below_drewN | apply below_drew1 | refine below_set ?_ GE282.out) | exact HB.out))) : w.heap.size ≤ gb283)); have n5_ := Aside0.mk ((by rw [hg]; exact Nat.ne_of_lt (blk_lt (g := gb282) (o := .cells #[.int .i64 a0_0, .slice A0_1 l0_1.length c0_1, .slice A0_2 l0_2.length c0_2] 26 (0, 0)) (by (with_reducible repeat (first | refine blk_drewN ?_ _ | refine blk_drew ?_ | refine blk_alloc ?_ _)); exact BK282.out)) : gb282 ≠ gb283)); have n6_ := Aside0.mk ((by rw [hg]; exact Nat.ne_of_gt (blk_lt (g := gb282) (o := .cells #[.int .i64 a0_0, .slice A0_1 l0_1.length c0_1, .slice A0_2 l0_2.length c0_2] 26 (0, 0)) (by (with_reducible repeat (first | refine blk_drewN ?_ _ | refine blk_drew ?_ | refine blk_alloc ?_ _)); exact BK282.out)) : gb283 ≠ gb282)); clear BK282; clear HB; have BK282 := n0_; have HB := n1_; have BK283 := n2_; have GW283 := n3_; have GE283 := n4_; have NB282_283 := n5_; have NB283_282 := n6_; clear n0_ n1_ n2_ n3_ n4_ n5_ n6_; clear hb hbox hg))
  repeat (go_quiet (first | ((with_reducible refine gate_dst (N := 2) rfl ?_); refine box_event ?hg (N := 2) ?hd (cs := #[.int .i64 a0_0, .slice A0_1 l0_1.length c0_1, .slice A0_2 l0_2.length c0_2]) (t := 26) ?hr ?_; (case hd => rfl); (case hg => rfl); (case hr => first | (go_simp; done) | (go_simp; rfl)); intro gb282 hg w3 hbox hb; have n0_ := Aside0.mk (below_step (by repeat (first | (with_reducible first | exact HB.out | apply below_alloc | apply pw_below_drewN | apply below_drew1) | exact HB.out)) hb); have n1_ := Aside0.mk (hbox); have n2_ := Aside0.mk ((by rw [hg]; exact (below_size (by repeat (first | (with_reducible first | exact HB.out | apply below_alloc | apply pw_below_drewN | apply below_drew1) | exact HB.out))) : w.heap.size ≤ gb282)); have n3_ := Aside0.mk ((by rw [hg]; exact (below_size (by repeat (first | (with_reducible first | exact HB.out | apply below_alloc | apply pw_below_drewN | apply below_drew1) | exact HB.out))) : w.heap.size ≤ gb282)); clear HB; have HB := n0_; have BK282 := n1_; have GW282 := n2_; have GE282 := n3_; clear n0_ n1_ n2_ n3_; clear hb hbox hg) | ((with_reducible refine gate_dst (N := 3) rfl ?_); refine box_event ?hg (N := 3) ?hd (cs := #[.int .i64 a1_0, .int .i64 a1_1, .int .i64 a1_2]) (t := 46) ?hr ?_; (case hd => rfl); (case hg => rfl); (case hr => first | (go_simp; done) | (go_simp; rfl)); intro gb283 hg w4 hbox hb; have n0_ := Aside0.mk (blk_below (g := gb282) (o := .cells #[.int .i64 a0_0, .slice A0_1 l0_1.length c0_1, .slice A0_2 l0_2.length c0_2] 26 (0, 0)) (by (with_reducible repeat (first | refine blk_drewN ?_ _ | refine blk_drew ?_ | refine blk_alloc ?_ _)); exact BK282.out) hb); have n1_ := Aside0.mk (below_step (by repeat (first | (with_reducible first | exact HB.out | apply below_alloc | apply pw_below_drewN | apply below_drew1 | refine below_set ?_ GE282.out) | exact HB.out)) hb); have n2_ := Aside0.mk (hbox); have n3_ := Aside0.mk ((by rw [hg]; exact (below_size (by repeat (first | (with_reducible first | exact HB.out | apply below_alloc | apply pw_below_drewN | apply below_drew1 | refine below_set ?_ GE282.out) | exact HB.out))) : w.heap.size ≤ gb283)); have n4_ := Aside0.mk ((by rw [hg]; exact (below_size (by repeat (first | (with_reducible first | exact HB.out | apply below_alloc | apply pw_below_drewN | apply below_drew1 | refine below_set ?_ GE282.out) | exact HB.out))) : w.heap.size ≤ gb283)); have n5_ := Aside0.mk ((by rw [hg]; exact Nat.ne_of_lt (blk_lt (g := gb282) (o := .cells #[.int .i64 a0_0, .slice A0_1 l0_1.length c0_1, .slice A0_2 l0_2.length c0_2] 26 (0, 0)) (by (with_reducible repeat (first | refine blk_drewN ?_ _ | refine blk_drew ?_ | refine blk_alloc ?_ _)); exact BK282.out)) : gb282 ≠ gb283)); have n6_ := Aside0.mk ((by rw [hg]; exact Nat.ne_of_gt (blk_lt (g := gb282) (o := .cells #[.int .i64 a0_0, .slice A0_1 l0_1.length c0_1, .slice A0_2 l0_2.length c0_2] 26 (0, 0)) (by (with_reducible repeat (first | refine blk_drewN ?_ _ | refine blk_drew ?_ | refine blk_alloc ?_ _)); exact BK282.out)) : gb283 ≠ gb282)); clear BK282; clear HB; have BK282 := n0_; have HB := n1_; have BK283 := n2_; have GW283 := n3_; have GE283 := n4_; have NB282_283 := n5_; have NB283_282 := n6_; clear n0_ n1_ n2_ n3_ n4_ n5_ n6_; clear hb hbox hg)); try go_wp2_with (first | ((with_reducible refine gate_dst (N := 2) rfl ?_); refine box_event ?hg (N := 2) ?hd (cs := #[.int .i64 a0_0, .slice A0_1 l0_1.length c0_1, .slice A0_2 l0_2.length c0_2]) (t := 26) ?hr ?_; (case hd => rfl); (case hg => rfl); (case hr => first | (go_simp; done) | (go_simp; rfl)); intro gb282 hg w3 hbox hb; have n0_ := Aside0.mk (below_step (by repeat (first | (with_reducible first | exact HB.out | apply below_alloc | apply pw_below_drewN | apply below_drew1) | exact HB.out)) hb); have n1_ := Aside0.mk (hbox); have n2_ := Aside0.mk ((by rw [hg]; exact (below_size (by repeat (first | (with_reducible first | exact HB.out | apply below_alloc | apply pw_below_drewN | apply below_drew1) | exact HB.out))) : w.heap.size ≤ gb282)); have n3_ := Aside0.mk ((by rw [hg]; exact (below_size (by repeat (first | (with_reducible first | exact HB.out | apply below_alloc | apply pw_below_drewN | apply below_drew1) | exact HB.out))) : w.heap.size ≤ gb282)); clear HB; have HB := n0_; have BK282 := n1_; have GW282 := n2_; have GE282 := n3_; clear n0_ n1_ n2_ n3_; clear hb hbox hg) | ((with_reducible refine gate_dst (N := 3) rfl ?_); refine box_event ?hg (N := 3) ?hd (cs := #[.int .i64 a1_0, .int .i64 a1_1, .int .i64 a1_2]) (t := 46) ?hr ?_; (case hd => rfl); (case hg => rfl); (case hr => first | (go_simp; done) | (go_simp; rfl)); intro gb283 hg w4 hbox hb; have n0_ := Aside0.mk (blk_below (g := gb282) (o := .cells #[.int .i64 a0_0, .slice A0_1 l0_1.length c0_1, .slice A0_2 l0_2.length c0_2] 26 (0, 0)) (by (with_reducible repeat (first | refine blk_drewN ?_ _ | refine blk_drew ?_ | refine blk_alloc ?_ _)); exact BK282.out) hb); have n1_ := Aside0.mk (below_step (by repeat (first | (with_reducible first | exact HB.out | apply below_alloc | apply pw_below_drewN | apply below_drew1 | refine below_set ?_ GE282.out) | exact HB.out)) hb); have n2_ := Aside0.mk (hbox); have n3_ := Aside0.mk ((by rw [hg]; exact (below_size (by repeat (first | (with_reducible first | exact HB.out | apply below_alloc | apply pw_below_drewN | apply below_drew1 | refine below_set ?_ GE282.out) | exact HB.out))) : w.heap.size ≤ gb283)); have n4_ := Aside0.mk ((by rw [hg]; exact (below_size (by repeat (first | (with_reducible first | exact HB.out | apply below_alloc | apply pw_below_drewN | apply below_drew1 | refine below_set ?_ GE282.out) | exact HB.out))) : w.heap.size ≤ gb283)); have n5_ := Aside0.mk ((by rw [hg]; exact Nat.ne_of_lt (blk_lt (g := gb282) (o := .cells #[.int .i64 a0_0, .slice A0_1 l0_1.length c0_1, .slice A0_2 l0_2.length c0_2] 26 (0, 0)) (by (with_reducible repeat (first | refine blk_drewN ?_ _ | refine blk_drew ?_ | refine blk_alloc ?_ _)); exact BK282.out)) : gb282 ≠ gb283)); have n6_ := Aside0.mk ((by rw [hg]; exact Nat.ne_of_gt (blk_lt (g := gb282) (o := .cells #[.int .i64 a0_0, .slice A0_1 l0_1.length c0_1, .slice A0_2 l0_2.length c0_2] 26 (0, 0)) (by (with_reducible repeat (first | refine blk_drewN ?_ _ | refine blk_drew ?_ | refine blk_alloc ?_ _)); exact BK282.out)) : gb283 ≠ gb282)); clear BK282; clear HB; have BK282 := n0_; have HB := n1_; have BK283 := n2_; have GW283 := n3_; have GE283 := n4_; have NB282_283 := n5_; have NB283_282 := n6_; clear n0_ n1_ n2_ n3_ n4_ n5_ n6_; clear hb hbox hg)))
  go_loopg [5] k (fun kq v5 w' => ∃ (x5_1 : Int), v5 = .int .i64 x5_1 ∧ Aside0 (railplanref11_Index.l0 kq x5_1 a0_0 l0_1 l0_2 a1_0 a1_1 a1_2 = some r) ∧ Aside0 (kq ≤ k) ∧ Aside0 (w'.heap[gb282]? = some (.cells #[.int .i64 a0_0, (.slice A0_1 l0_1.length c0_1), (.slice A0_2 l0_2.length c0_2)] 26 (0, 0))) ∧ Aside0 (w'.heap[gb283]? = some (.cells #[.int .i64 a1_0, .int .i64 a1_1, .int .i64 a1_2] 46 (0, 0))) ∧ Aside0 (Below w.heap.size w w'))
  case atStart => exact ⟨(0), (by first | rfl | (simp; done) | (simp [*]; done)), H', ⟨Nat.le_refl _⟩, ⟨by (with_reducible repeat (first | refine blk_drewN ?_ _ | refine blk_drew ?_ | refine blk_alloc ?_ _)); exact BK282.out⟩, ⟨by (with_reducible repeat (first | refine blk_drewN ?_ _ | refine blk_drew ?_ | refine blk_alloc ?_ _)); exact BK283.out⟩, ⟨by repeat (first | (with_reducible first | exact HB.out | apply below_alloc | apply pw_below_drewN | apply below_drew1 | refine below_set ?_ GE282.out | refine below_set ?_ GE283.out) | exact HB.out)⟩⟩
  case round =>
    clear H'
    try clear p2
    try clear c3
    obtain ⟨x5_1, rfl, HA, HK1, BK282, BK283, HB⟩ := hrel
    cases gk with
    | zero => exact absurd HA.out (by simp [railplanref11_Index.l0])
    | succ k1 =>
      have H := HA.out
      clear HA
      simp only [railplanref11_Index.l0] at H
      by_cases c5 : x5_1 < (l0_1.length : Int)
      · rw [if_pos c5] at H
        have c5b0 : decide (x5_1 < (l0_1.length : Int)) = true := decide_eq_true c5
        clear c5
        by_cases c6 : 0 ≤ x5_1
        · rw [if_pos c6] at H
          have c6b0 : decide (0 ≤ x5_1) = true := decide_eq_true c6
          clear c6
          by_cases c7 : (((rd_T46 l0_1 x5_1).f0) == a1_0 && (((rd_T46 l0_1 x5_1).f1) == a1_1 && (((rd_T46 l0_1 x5_1).f2) == a1_2))) = true
          · rw [if_pos c7] at H
            have c7b0 : (((rd_T46 l0_1 x5_1).f0) == a1_0 && (((rd_T46 l0_1 x5_1).f1) == a1_1 && (((rd_T46 l0_1 x5_1).f2) == a1_2))) = true := c7
            (try (have c7b1 : decide (((rd_T46 l0_1 x5_1).f0) = a1_0 && (((rd_T46 l0_1 x5_1).f1) == a1_1 && (((rd_T46 l0_1 x5_1).f2) == a1_2))) = true := by simpa using c7))
            (try (have c7b2 : (((rd_T46 l0_1 x5_1).f0) == a1_0 && (((rd_T46 l0_1 x5_1).f1) == a1_1 && (((rd_T46 l0_1 x5_1).f2) == a1_2))) = true := by simpa using c7))
            clear c7
            obtain rfl := Option.some.inj H
            have hnb8 := NB282_283.out
            have hnc8 := NB283_282.out
            have hcz9_0 : wr.cell? ⟨gb282, 0, none⟩ = some (.int .i64 a0_0) := (blk_cell BK282.out 0).trans rfl
            have hcz9_1 : wr.cell? ⟨gb282, 1, none⟩ = some (.slice A0_1 l0_1.length c0_1) := (blk_cell BK282.out 1).trans rfl
            have hcz9_2 : wr.cell? ⟨gb282, 2, none⟩ = some (.slice A0_2 l0_2.length c0_2) := (blk_cell BK282.out 2).trans rfl
            have hfz9_0 := blk_frozen BK282.out 0
            have hfz9_1 := blk_frozen BK282.out 1
            have hfz9_2 := blk_frozen BK282.out 2
            have p284 : 0 ≤ (x5_1 : Int) := of_decide_eq_true (by first | (with_reducible assumption) | assumption)
            have q284 : x5_1 < (l0_1.length : Int) := of_decide_eq_true (by first | (with_reducible assumption) | assumption)
            obtain ⟨ad284, e284, hx284_0, hx284_1, hx284_2⟩ := at_T46 HR0_1.out x5_1 p284 q284
            cases e284
            replace hx284_0 := (HB.out.cell (World.block_lt_of_cell? w _ hx284_0)).trans hx284_0
            replace hx284_1 := (HB.out.cell (World.block_lt_of_cell? w _ hx284_1)).trans hx284_1
            replace hx284_2 := (HB.out.cell (World.block_lt_of_cell? w _ hx284_2)).trans hx284_2
            replace p284 := eq_true p284
            replace q284 := eq_true q284
            have hcz10_0 : wr.cell? ⟨gb283, 0, none⟩ = some (.int .i64 a1_0) := (blk_cell BK283.out 0).trans rfl
            have hcz10_1 : wr.cell? ⟨gb283, 1, none⟩ = some (.int .i64 a1_1) := (blk_cell BK283.out 1).trans rfl
            have hcz10_2 : wr.cell? ⟨gb283, 2, none⟩ = some (.int .i64 a1_2) := (blk_cell BK283.out 2).trans rfl
            have hfz10_0 := blk_frozen BK283.out 0
            have hfz10_1 := blk_frozen BK283.out 1
            have hfz10_2 := blk_frozen BK283.out 2
            go_wp2
            repeat (go_quiet (fail); try go_wp2)
            go_ret
            exact ⟨by first | rfl | (simp [errW_none, errW_some] <;> rfl) | (simp [*, errW_none, errW_some] <;> rfl), by repeat (first | (with_reducible first | exact HB.out | apply below_alloc | apply pw_below_drewN | apply below_drew1 | refine below_set ?_ GE282.out | refine below_set ?_ GE283.out) | exact HB.out)⟩
          · rw [if_neg c7] at H
            have c7b0 : (((rd_T46 l0_1 x5_1).f0) == a1_0 && (((rd_T46 l0_1 x5_1).f1) == a1_1 && (((rd_T46 l0_1 x5_1).f2) == a1_2))) = false := by simpa using c7
            (try (have c7b1 : decide (((rd_T46 l0_1 x5_1).f0) = a1_0 && (((rd_T46 l0_1 x5_1).f1) == a1_1 && (((rd_T46 l0_1 x5_1).f2) == a1_2))) = false := by simpa using c7))
            (try (have c7b2 : (((rd_T46 l0_1 x5_1).f0) == a1_0 && (((rd_T46 l0_1 x5_1).f1) == a1_1 && (((rd_T46 l0_1 x5_1).f2) == a1_2))) = false := by simpa using c7))
            (try (have c7b3 : ¬ (((rd_T46 l0_1 x5_1).f0) = a1_0 && (((rd_T46 l0_1 x5_1).f1) == a1_1 && (((rd_T46 l0_1 x5_1).f2) == a1_2))) := by simpa using c7))
            clear c7
            have H' := Aside0.mk H
            clear H
            have hnb11 := NB282_283.out
            have hnc11 := NB283_282.out
            have hcz12_0 : wr.cell? ⟨gb282, 0, none⟩ = some (.int .i64 a0_0) := (blk_cell BK282.out 0).trans rfl
            have hcz12_1 : wr.cell? ⟨gb282, 1, none⟩ = some (.slice A0_1 l0_1.length c0_1) := (blk_cell BK282.out 1).trans rfl
            have hcz12_2 : wr.cell? ⟨gb282, 2, none⟩ = some (.slice A0_2 l0_2.length c0_2) := (blk_cell BK282.out 2).trans rfl
            have hfz12_0 := blk_frozen BK282.out 0
            have hfz12_1 := blk_frozen BK282.out 1
            have hfz12_2 := blk_frozen BK282.out 2
            have p284 : 0 ≤ (x5_1 : Int) := of_decide_eq_true (by first | (with_reducible assumption) | assumption)
            have q284 : x5_1 < (l0_1.length : Int) := of_decide_eq_true (by first | (with_reducible assumption) | assumption)
            obtain ⟨ad284, e284, hx284_0, hx284_1, hx284_2⟩ := at_T46 HR0_1.out x5_1 p284 q284
            cases e284
            replace hx284_0 := (HB.out.cell (World.block_lt_of_cell? w _ hx284_0)).trans hx284_0
            replace hx284_1 := (HB.out.cell (World.block_lt_of_cell? w _ hx284_1)).trans hx284_1
            replace hx284_2 := (HB.out.cell (World.block_lt_of_cell? w _ hx284_2)).trans hx284_2
            replace p284 := eq_true p284
            replace q284 := eq_true q284
            have hcz13_0 : wr.cell? ⟨gb283, 0, none⟩ = some (.int .i64 a1_0) := (blk_cell BK283.out 0).trans rfl
            have hcz13_1 : wr.cell? ⟨gb283, 1, none⟩ = some (.int .i64 a1_1) := (blk_cell BK283.out 1).trans rfl
            have hcz13_2 : wr.cell? ⟨gb283, 2, none⟩ = some (.int .i64 a1_2) := (blk_cell BK283.out 2).trans rfl
            have hfz13_0 := blk_frozen BK283.out 0
            have hfz13_1 := blk_frozen BK283.out 1
            have hfz13_2 := blk_frozen BK283.out 2
            go_wp2
            repeat (go_quiet (fail); try go_wp2)
            go_roundg k1
            case measure => have := HK1.out; omega
            case rel => exact ⟨(wrap64 (x5_1 + 1)), (by first | rfl | (simp; done) | (simp [*]; done)), H', ⟨by have := HK1.out; omega⟩, ⟨by (with_reducible repeat (first | refine blk_drewN ?_ _ | refine blk_drew ?_ | refine blk_alloc ?_ _)); exact BK282.out⟩, ⟨by (with_reducible repeat (first | refine blk_drewN ?_ _ | refine blk_drew ?_ | refine blk_alloc ?_ _)); exact BK283.out⟩, ⟨by repeat (first | (with_reducible first | exact HB.out | apply below_alloc | apply pw_below_drewN | apply below_drew1 | refine below_set ?_ GE282.out | refine below_set ?_ GE283.out) | exact HB.out)⟩⟩
        · rw [if_neg c6] at H
          exact absurd H (by simp)
      · rw [if_neg c5] at H
        have c5b0 : decide (x5_1 < (l0_1.length : Int)) = false := decide_eq_false c5
        clear c5
        obtain rfl := Option.some.inj H
        have hnb14 := NB282_283.out
        have hnc14 := NB283_282.out
        have hcz15_0 : wr.cell? ⟨gb282, 0, none⟩ = some (.int .i64 a0_0) := (blk_cell BK282.out 0).trans rfl
        have hcz15_1 : wr.cell? ⟨gb282, 1, none⟩ = some (.slice A0_1 l0_1.length c0_1) := (blk_cell BK282.out 1).trans rfl
        have hcz15_2 : wr.cell? ⟨gb282, 2, none⟩ = some (.slice A0_2 l0_2.length c0_2) := (blk_cell BK282.out 2).trans rfl
        have hfz15_0 := blk_frozen BK282.out 0
        have hfz15_1 := blk_frozen BK282.out 1
        have hfz15_2 := blk_frozen BK282.out 2
        go_wp2
        repeat (go_quiet (fail); try go_wp2)
        go_ret
        exact ⟨by first | rfl | (simp [errW_none, errW_some] <;> rfl) | (simp [*, errW_none, errW_some] <;> rfl), by repeat (first | (with_reducible first | exact HB.out | apply below_alloc | apply pw_below_drewN | apply below_drew1 | refine below_set ?_ GE282.out | refine below_set ?_ GE283.out) | exact HB.out)⟩

end Go.Proofs.Ytapnkefhihgbbaa.PAll
