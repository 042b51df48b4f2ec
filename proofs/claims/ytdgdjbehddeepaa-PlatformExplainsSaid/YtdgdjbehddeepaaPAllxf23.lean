/- What calls of the Go functions below do, each under the premises that its theorem states. Laid by a program of the claimant, which drives the kit's print; some texts are written by hand. -/
import Derived.Test.YtdgdjbehddeepaaPAllx0
import Derived.Test.YtdgdjbehddeepaaPAllxf15
import Derived.Test.YtdgdjbehddeepaaPAllxf20
import Derived.Test.YtdgdjbehddeepaaPAllxf21
import Derived.Test.YtdgdjbehddeepaaPAllxf37
namespace Go.Proofs.Ytdgdjbehddeepaa.PAll
open Go.RowKit Go.Proofs.YtdgdjbehddeepaaW.PrintWords Go.Proofs.YtdgdjbehddeepaaW.PrintLast Go.Proofs.YtdgdjbehddeepaaW.PrintMore
attribute [local go_sem] max2_int min2_int max_two min_two max_three min_three max_four min_four   -- for this text's walks alone
set_option linter.unusedVariables false
set_option linter.unusedSimpArgs false

/-! ### platform_Explain: function 23 -/
mutual
def platform_Explain.l0 : Nat → Int → List (S28) → Int → Int → List Int → Int → Int → Option (List Int × Int × Int)
  | 0, _, _, _, _, _, _, _ => none
  | k + 1, x0, x1, x2, x12, x13, x42, x43 => if x43 < x42 then (if x13.length < 17592186044416 then (platform_Explain.l0 k x0 x1 x2 x12 (x13 ++ [x43]) x42 (wrap64 (x43 + 1))) else (none)) else (platform_Explain.l1 k x0 x1 x2 x12 x13 (x1.length : Int) 0)
def platform_Explain.l1 : Nat → Int → List (S28) → Int → Int → List Int → Int → Int → Option (List Int × Int × Int)
  | 0, _, _, _, _, _, _, _ => none
  | k + 1, x0, x1, x2, x12, x13, x52, x53 => if x53 < x52 then ((slices_Index_int_int.f k x13 x53).bind fun t207 => ((slices_Clone_int_int.f x13).bind fun t208 => ((slices_Delete_int_int.f t208 t207 (wrap64 (t207 + 1))).bind fun t211 => (platform_Explain.l2 k x0 x1 x2 x12 x13 t211 ([] : List (S28)) x52 x53 t211 (t211.length : Int) 0)))) else (some (x13, wrap64 (x2 - x12), 0))
def platform_Explain.l2 : Nat → Int → List (S28) → Int → Int → List Int → List Int → List (S28) → Int → Int → List Int → Int → Int → Option (List Int × Int × Int)
  | 0, _, _, _, _, _, _, _, _, _, _, _, _ => none
  | k + 1, x0, x1, x2, x12, x13, x17, x18, x52, x53, x65, x66, x67 => if x67 < x66 then (if 0 ≤ x67 then (if x67 < (x65.length : Int) then (if 0 ≤ (rd x65 x67) then (if (rd x65 x67) < (x1.length : Int) then (if x18.length < 3518437208883 then (platform_Explain.l2 k x0 x1 x2 x12 x13 x17 (x18 ++ [(⟨(rd_T28 x1 (rd x65 x67)).f0, (rd_T28 x1 (rd x65 x67)).f1, (rd_T28 x1 (rd x65 x67)).f2⟩ : S28)]) x52 x53 x65 x66 (wrap64 (x67 + 1))) else (none)) else (none)) else (none)) else (none)) else (none)) else (if x12 < 1 then (some (([] : List Int), 0, 15)) else ((platform_Assign.f k x0 x18 x12).bind fun bt219 => (if bt219.2.2 = 15 then (some (([] : List Int), 0, bt219.2.2)) else (if bt219.2.2 = 14 then (platform_Explain.l1 k x0 x1 x2 (wrap64 (x12 - bt219.2.1)) x17 x52 (wrap64 (x53 + 1))) else (platform_Explain.l1 k x0 x1 x2 (wrap64 (x12 - bt219.2.1)) x13 x52 (wrap64 (x53 + 1)))))))
end
def platform_Explain.f (k : Nat) (a0 : Int) (l1 : List (S28)) (a2 : Int) : Option (List Int × Int × Int) := (platform_Assign.f k a0 l1 a2).bind fun bt199 => (if bt199.2.2 = 0 then (some (([] : List Int), 0, 6)) else (if bt199.2.2 = 14 then (platform_Explain.l0 k a0 l1 a2 (wrap64 (a2 - bt199.2.1)) ([] : List Int) (l1.length : Int) 0) else (some (([] : List Int), 0, bt199.2.2))))
theorem platform_Explain.mono_l : ∀ k, (∀ y0 y1 y2 y3 y4 y5 y6, LeO (platform_Explain.l0 k y0 y1 y2 y3 y4 y5 y6) (platform_Explain.l0 (k + 1) y0 y1 y2 y3 y4 y5 y6)) ∧ (∀ y0 y1 y2 y3 y4 y5 y6, LeO (platform_Explain.l1 k y0 y1 y2 y3 y4 y5 y6) (platform_Explain.l1 (k + 1) y0 y1 y2 y3 y4 y5 y6)) ∧ (∀ y0 y1 y2 y3 y4 y5 y6 y7 y8 y9 y10 y11, LeO (platform_Explain.l2 k y0 y1 y2 y3 y4 y5 y6 y7 y8 y9 y10 y11) (platform_Explain.l2 (k + 1) y0 y1 y2 y3 y4 y5 y6 y7 y8 y9 y10 y11))
  | 0 => ⟨fun _ _ _ _ _ _ _ r h => by simp [platform_Explain.l0] at h, fun _ _ _ _ _ _ _ r h => by simp [platform_Explain.l1] at h, fun _ _ _ _ _ _ _ _ _ _ _ _ r h => by simp [platform_Explain.l2] at h⟩
  | k + 1 => by
    obtain ⟨ih0, ih1, ih2⟩ := platform_Explain.mono_l k
    refine ⟨?_, ?_, ?_⟩
    · intro y0 y1 y2 y3 y4 y5 y6
      unfold platform_Explain.l0
      repeat' first
      | (with_reducible exact ih0 _ _ _ _ _ _ _)
      | (with_reducible exact ih1 _ _ _ _ _ _ _)
      | (with_reducible exact ih2 _ _ _ _ _ _ _ _ _ _ _ _)
      | (with_reducible exact platform_Assign.mono _ _ _ _)
      | (with_reducible exact slices_Index_int_int.mono _ _ _)
      | (with_reducible exact LeO.refl _)
      | (with_reducible exact LeO.none _)
      | (with_reducible refine LeO.ite ?_ ?_)
      | (with_reducible refine LeO.bind ?_ (fun _ => ?_))
      | exact ih0 _ _ _ _ _ _ _
      | exact ih1 _ _ _ _ _ _ _
      | exact ih2 _ _ _ _ _ _ _ _ _ _ _ _
      | exact platform_Assign.mono _ _ _ _
      | exact slices_Index_int_int.mono _ _ _
      | exact LeO.none _
      | refine LeO.ite ?_ ?_
      | refine LeO.bind ?_ (fun _ => ?_)
    · intro y0 y1 y2 y3 y4 y5 y6
      unfold platform_Explain.l1
      repeat' first
      | (with_reducible exact ih0 _ _ _ _ _ _ _)
      | (with_reducible exact ih1 _ _ _ _ _ _ _)
      | (with_reducible exact ih2 _ _ _ _ _ _ _ _ _ _ _ _)
      | (with_reducible exact platform_Assign.mono _ _ _ _)
      | (with_reducible exact slices_Index_int_int.mono _ _ _)
      | (with_reducible exact LeO.refl _)
      | (with_reducible exact LeO.none _)
      | (with_reducible refine LeO.ite ?_ ?_)
      | (with_reducible refine LeO.bind ?_ (fun _ => ?_))
      | exact ih0 _ _ _ _ _ _ _
      | exact ih1 _ _ _ _ _ _ _
      | exact ih2 _ _ _ _ _ _ _ _ _ _ _ _
      | exact platform_Assign.mono _ _ _ _
      | exact slices_Index_int_int.mono _ _ _
      | exact LeO.none _
      | refine LeO.ite ?_ ?_
      | refine LeO.bind ?_ (fun _ => ?_)
    · intro y0 y1 y2 y3 y4 y5 y6 y7 y8 y9 y10 y11
      unfold platform_Explain.l2
      repeat' first
      | (with_reducible exact ih0 _ _ _ _ _ _ _)
      | (with_reducible exact ih1 _ _ _ _ _ _ _)
      | (with_reducible exact ih2 _ _ _ _ _ _ _ _ _ _ _ _)
      | (with_reducible exact platform_Assign.mono _ _ _ _)
      | (with_reducible exact slices_Index_int_int.mono _ _ _)
      | (with_reducible exact LeO.refl _)
      | (with_reducible exact LeO.none _)
      | (with_reducible refine LeO.ite ?_ ?_)
      | (with_reducible refine LeO.bind ?_ (fun _ => ?_))
      | exact ih0 _ _ _ _ _ _ _
      | exact ih1 _ _ _ _ _ _ _
      | exact ih2 _ _ _ _ _ _ _ _ _ _ _ _
      | exact platform_Assign.mono _ _ _ _
      | exact slices_Index_int_int.mono _ _ _
      | exact LeO.none _
      | refine LeO.ite ?_ ?_
      | refine LeO.bind ?_ (fun _ => ?_)
theorem platform_Explain.mono : ∀ a0 a1 a2 k, LeO (platform_Explain.f k a0 a1 a2) (platform_Explain.f (k + 1) a0 a1 a2) := by
  intro a0 a1 a2 k
  obtain ⟨ih0, ih1, ih2⟩ := platform_Explain.mono_l k
  unfold platform_Explain.f
  repeat' first
      | (with_reducible exact ih0 _ _ _ _ _ _ _)
      | (with_reducible exact ih1 _ _ _ _ _ _ _)
      | (with_reducible exact ih2 _ _ _ _ _ _ _ _ _ _ _ _)
      | (with_reducible exact platform_Assign.mono _ _ _ _)
      | (with_reducible exact slices_Index_int_int.mono _ _ _)
      | (with_reducible exact LeO.refl _)
      | (with_reducible exact LeO.none _)
      | (with_reducible refine LeO.ite ?_ ?_)
      | (with_reducible refine LeO.bind ?_ (fun _ => ?_))
      | exact ih0 _ _ _ _ _ _ _
      | exact ih1 _ _ _ _ _ _ _
      | exact ih2 _ _ _ _ _ _ _ _ _ _ _ _
      | exact platform_Assign.mono _ _ _ _
      | exact slices_Index_int_int.mono _ _ _
      | exact LeO.none _
      | refine LeO.ite ?_ ?_
      | refine LeO.bind ?_ (fun _ => ?_)
set_option maxHeartbeats 8000000 in
set_option maxRecDepth 100000 in
theorem platform_Explain.calls (k : Nat) (a0 : Int) (P1_ : Nat → Prop) (A1 : Option Addr) (c1 : Nat) (l1 : List (S28)) (a2 : Int) (r1 : List Int) (r2 : Int) (r3 : Int) (w : World) (hs1 : Kd.V k28 28 w w.heap.size (fun k_ => P1_ k_) (.slice A1 l1.length c1) l1) (h : platform_Explain.f k a0 l1 a2 = some (r1, r2, r3)) :
    Calls Try.prog 23 #[.int .i64 a0, .slice A1 l1.length c1, .int .i64 a2] w fun e w' => ∃ v0_ : Value, e = .returned (.tuple #[v0_, .int .i64 r2, .int .i64 r3]) ∧ Kd.R (Kd.int .i64) 3 w' w.heap.size (fun k_ => (w.heap.size ≤ k_)) v0_ r1 ∧ Below w.heap.size w w' := by
  have hu28 := Try.underlying28
  have HO1 := Aside0.mk (show Kd.V k28 28 w w.heap.size (fun k_ => (P1_ k_ ∨ w.heap.size ≤ k_)) (.slice A1 l1.length c1) l1 from Kd.V_mono hs1 (fun k_ hk => .inl hk))
  have HB := Aside0.mk (Below.refl w.heap.size w)
  have H : ((platform_Assign.f k a0 l1 a2).bind fun bt199 => (if bt199.2.2 = 0 then (some (([] : List Int), 0, 6)) else (if bt199.2.2 = 14 then (platform_Explain.l0 k a0 l1 a2 (wrap64 (a2 - bt199.2.1)) ([] : List Int) (l1.length : Int) 0) else (some (([] : List Int), 0, bt199.2.2))))) = some (r1, r2, r3) := h
  clear h
  replace H := Option.bind_eq_some_iff.mp H
  obtain ⟨⟨t199, t200, t201⟩, A40, H⟩ := H
  replace H : (if t201 = 0 then (some (([] : List Int), 0, 6)) else (if t201 = 14 then (platform_Explain.l0 k a0 l1 a2 (wrap64 (a2 - t200)) ([] : List Int) (l1.length : Int) 0) else (some (([] : List Int), 0, t201)))) = some (r1, r2, r3) := H
  have A4 := Aside0.mk A40
  clear A40
  by_cases c5 : t201 = 0
  · rw [if_pos c5] at H
    have c5b0 : (t201 == 0) = true := beq_iff_eq.mpr c5
    have c5b1 : (t201 != 0) = false := bne_eq_false_iff_eq.mpr c5
    clear c5
    simp only [Option.some.injEq, Prod.mk.injEq] at H
    obtain ⟨rfl, rfl, rfl⟩ := H
    go_enter Try.func23, Try.ntmps23
    go_wp2_with (first | ((with_reducible refine gate_callee (f := 15) rfl ?_); refine goesL_ (some 28) rfl rfl Try.func15 (by kernel_rfl) rfl #[.int .i64 a0, .slice A1 l1.length c1, .int .i64 a2] rfl (by (try simp only [List.map_toArray, List.map_cons, List.map_nil]); first | done | rfl | (simp only [List.length_drop, List.length_take]; rfl)) ?_; (with_reducible refine (platform_Assign.calls k a0 _ _ l1 a2 t199 t200 t201 _ ?side1 ?side2 A4.out).mono ?_); (case side1 => repeat (first | exact (Kd.V_reads' HO1.out).2.2 | (with_reducible refine Kd.C_alloc ?_ _) | (with_reducible refine Kd.C_drewN ?_ _) | (with_reducible refine Kd.C_drew ?_))); (case side2 => exact (Kd.V_reads' HO1.out).2.1); rintro e w6 ⟨v202, rfl, ho0, hb⟩; refine ⟨_, rfl, ?_⟩; have n0_ := Aside0.mk (Kd.V_elder' (by (with_reducible repeat (first | apply Kd.V_alloc | apply Kd.V_drewN | apply Kd.V_drew)); exact HO1.out) (Kd.R_base ho0) hb); have n1_ := Aside0.mk (Kd.R_lower (Kd.R_newM (M := fun k_ => (w.heap.size ≤ k_)) ho0 (below_size (by repeat (first | (with_reducible first | exact HB.out | apply below_alloc | apply pw_below_drewN | apply below_drew1) | exact HB.out))) (fun k_ h_ => h_)) (below_size (by repeat (first | (with_reducible first | exact HB.out | apply below_alloc | apply pw_below_drewN | apply below_drew1) | exact HB.out)))); have n2_ := Aside0.mk (below_step (by repeat (first | (with_reducible first | exact HB.out | apply below_alloc | apply pw_below_drewN | apply below_drew1) | exact HB.out)) hb); clear HO1; clear HB; have HO1 := n0_; have HO203 := n1_; have HB := n2_; clear n0_ n1_ n2_; (try clear hb); (try clear hb2); (try clear hk); (try clear hi); (try clear ho0)))
    go_ret3
    exact ⟨_, by first | rfl | (simp [errW_none, errW_some] <;> rfl) | (simp [*, errW_none, errW_some] <;> rfl), by first | exact Kd.R_nil _ _ _ _ _ | exact Kd.N_nil _ _ _ _ _ | exact Kd.V_nil _ _ _ _ _ | exact Kd.Q_nil _ _ _ _ _ | exact Kd.S_nil _ _ _ _ _, by repeat (first | (with_reducible first | exact HB.out | apply below_alloc | apply pw_below_drewN | apply below_drew1) | exact HB.out)⟩
  · rw [if_neg c5] at H
    have c5b0 : (t201 == 0) = false := beq_eq_false_iff_ne.mpr c5
    have c5b1 : (t201 != 0) = true := bne_iff_ne.mpr c5
    by_cases c7 : t201 = 14
    · rw [if_pos c7] at H
      have c7b0 : (t201 == 14) = true := beq_iff_eq.mpr c7
      have c7b1 : (t201 != 14) = false := bne_eq_false_iff_eq.mpr c7
      clear c7
      have H' := Aside0.mk H
      clear H
      go_enter Try.func23, Try.ntmps23
      go_wp2_with (first | ((with_reducible refine gate_callee (f := 15) rfl ?_); refine goesL_ (some 28) rfl rfl Try.func15 (by kernel_rfl) rfl #[.int .i64 a0, .slice A1 l1.length c1, .int .i64 a2] rfl (by (try simp only [List.map_toArray, List.map_cons, List.map_nil]); first | done | rfl | (simp only [List.length_drop, List.length_take]; rfl)) ?_; (with_reducible refine (platform_Assign.calls k a0 _ _ l1 a2 t199 t200 t201 _ ?side1 ?side2 A4.out).mono ?_); (case side1 => repeat (first | exact (Kd.V_reads' HO1.out).2.2 | (with_reducible refine Kd.C_alloc ?_ _) | (with_reducible refine Kd.C_drewN ?_ _) | (with_reducible refine Kd.C_drew ?_))); (case side2 => exact (Kd.V_reads' HO1.out).2.1); rintro e w8 ⟨v202, rfl, ho0, hb⟩; refine ⟨_, rfl, ?_⟩; have n0_ := Aside0.mk (Kd.V_elder' (by (with_reducible repeat (first | apply Kd.V_alloc | apply Kd.V_drewN | apply Kd.V_drew)); exact HO1.out) (Kd.R_base ho0) hb); have n1_ := Aside0.mk (Kd.R_lower (Kd.R_newM (M := fun k_ => (w.heap.size ≤ k_)) ho0 (below_size (by repeat (first | (with_reducible first | exact HB.out | apply below_alloc | apply pw_below_drewN | apply below_drew1) | exact HB.out))) (fun k_ h_ => h_)) (below_size (by repeat (first | (with_reducible first | exact HB.out | apply below_alloc | apply pw_below_drewN | apply below_drew1) | exact HB.out)))); have n2_ := Aside0.mk (below_step (by repeat (first | (with_reducible first | exact HB.out | apply below_alloc | apply pw_below_drewN | apply below_drew1) | exact HB.out)) hb); clear HO1; clear HB; have HO1 := n0_; have HO203 := n1_; have HB := n2_; clear n0_ n1_ n2_; (try clear hb); (try clear hb2); (try clear hk); (try clear hi); (try clear ho0)))
      go_loopg [13, 43] k (fun kq v13 v43 w' => ∃ (x13_1 : List Int) (x43_1 : Int), v43 = .int .i64 x43_1 ∧ Aside0 (platform_Explain.l0 kq a0 l1 a2 (wrap64 (a2 - t200)) x13_1 (l1.length : Int) x43_1 = some (r1, r2, r3)) ∧ Aside0 (kq ≤ k) ∧ Aside0 (Kd.V k28 28 w' w.heap.size (fun k_ => (P1_ k_ ∨ w.heap.size ≤ k_) ∧ some k_ ≠ (v13 : Value).ownBlock) (.slice A1 l1.length c1) l1) ∧ Aside0 (Kd.R (Kd.int .i64) 3 w' w.heap.size (fun k_ => (w.heap.size ≤ k_)) v13 x13_1) ∧ Aside0 (Below w.heap.size w w'))
      case atStart => exact ⟨(([] : List Int)), (0), (by first | rfl | (simp; done) | (simp [*]; done)), H', ⟨Nat.le_refl _⟩, ⟨by (with_reducible repeat (first | apply Kd.V_alloc | apply Kd.V_drewN | apply Kd.V_drew)); exact Kd.V_mono HO1.out (fun _ hk => ⟨hk.1, (by simp [Value.ownBlock])⟩)⟩, ⟨by first | exact Kd.R_nil _ _ _ _ _ | exact Kd.N_nil _ _ _ _ _ | exact Kd.V_nil _ _ _ _ _ | exact Kd.Q_nil _ _ _ _ _ | exact Kd.S_nil _ _ _ _ _⟩, ⟨by repeat (first | (with_reducible first | exact HB.out | apply below_alloc | apply pw_below_drewN | apply below_drew1) | exact HB.out)⟩⟩
      case round =>
        clear H'
        try clear c1
        try clear c2
        try clear p2
        try clear c5
        try clear c5b0
        try clear c5b1
        try clear p6
        try clear c7
        try clear c7b0
        try clear c7b1
        obtain ⟨x13_1, x43_1, rfl, HA, HK1, HO_1, HO_13, HB⟩ := hrel
        cases gk with
        | zero => exact absurd HA.out (by simp [platform_Explain.l0])
        | succ k1 =>
          have H := HA.out
          clear HA
          simp only [platform_Explain.l0] at H
          by_cases c9 : x43_1 < (l1.length : Int)
          · rw [if_pos c9] at H
            have c9b0 : decide (x43_1 < (l1.length : Int)) = true := decide_eq_true c9
            clear c9
            by_cases c10 : x13_1.length < 17592186044416
            · rw [if_pos c10] at H
              have LMc10 := Aside0.mk c10
              clear c10
              obtain ⟨y204, hy204⟩ : ∃ y_ : List Int, y_ = (x13_1 ++ [x43_1]) := ⟨_, rfl⟩
              replace H : (platform_Explain.l0 k1 a0 l1 a2 (wrap64 (a2 - t200)) y204 (l1.length : Int) (wrap64 (x43_1 + 1))) = some (r1, r2, r3) := by first | (rw [hy204]; with_reducible exact H) | (have H2_ := (Option.bind_some _ _).symm.trans H; rw [hy204]; with_reducible exact H2_) | (have H2_ := (Option.bind_some _ _).symm.trans H; with_reducible exact H2_) | with_reducible exact H | (rw [hy204]; exact H) | exact H
              have Ny204 := Aside0.mk hy204
              clear hy204
              have H' := Aside0.mk H
              clear H
              go_wp2_with (first | ((with_reducible refine gate_builtin (b := .append) (xs := #[.tmp 46, .tmp 48]) rfl ?_); at_builtin; refine Kd.R_append (Kd.int .i64) (w0 := w) w.heap.size rfl (.tmp 46) (.tmp 48) 22 3 (.int .i64 0) 8 rfl Try.underlying22 info3 rfl (by decide) (by omega) u13 x13_1 x43_1 [.int .i64 x43_1] (fun k_ => (w.heap.size ≤ k_)) (fun _ => False) rfl rfl ?aP (fun _ hk => hk.elim) ?aF ?aO ?aB ?aS ?aL ?_; (case aP => exact rfl); (case aB => exact (by repeat (first | (with_reducible first | exact HB.out | apply below_alloc | apply pw_below_drewN | apply below_drew1) | exact HB.out))); (case aF => exact (fun k_ hk => (Nat.le_trans (below_size (by repeat (first | (with_reducible first | exact HB.out | apply below_alloc | apply pw_below_drewN | apply below_drew1) | exact HB.out))) hk))); (case aO => exact (by (with_reducible repeat (first | apply Kd.R_alloc | apply Kd.R_drewN | apply Kd.R_drew)); exact HO_13.out)); (case aS => exact (below_size (by repeat (first | (with_reducible first | exact HB.out | apply below_alloc | apply pw_below_drewN | apply below_drew1) | exact HB.out)))); (case aL => have := LMc10.out; omega); intro v205 w11 ho hb hg hat; rw [← Ny204.out] at ho; have n0_ := Aside0.mk (Kd.V_afterv (ok := (fun k_ => (P1_ k_ ∨ w.heap.size ≤ k_))) (by (with_reducible repeat (first | apply Kd.V_alloc | apply Kd.V_drewN | apply Kd.V_drew)); exact HO_1.out) hg hat); have n1_ := Aside0.mk (hb); have n2_ := Aside0.mk (ho); clear HO_1; clear HB; clear HO_13; have HO_1 := n0_; have HB := n1_; have HO206 := n2_; clear n0_ n1_ n2_; clear ho hb hg hat))
              go_roundg k1
              case measure => have := HK1.out; omega
              case rel => exact ⟨(y204), (wrap64 (x43_1 + 1)), (by first | rfl | (simp; done) | (simp [*]; done)), H', ⟨by have := HK1.out; omega⟩, ⟨by (with_reducible repeat (first | apply Kd.V_alloc | apply Kd.V_drewN | apply Kd.V_drew)); exact HO_1.out⟩, ⟨by (with_reducible repeat (first | apply Kd.R_alloc | apply Kd.R_drewN | apply Kd.R_drew)); exact HO206.out⟩, ⟨by repeat (first | (with_reducible first | exact HB.out | apply below_alloc | apply pw_below_drewN | apply below_drew1) | exact HB.out)⟩⟩
            · rw [if_neg c10] at H
              exact absurd H (by simp)
          · rw [if_neg c9] at H
            have c9b0 : decide (x43_1 < (l1.length : Int)) = false := decide_eq_false c9
            clear c9
            have H' := Aside0.mk H
            clear H
            go_wp2
            go_loopg [12, 13, 53] k1 (fun kq v12 v13 v53 w' => ∃ (x12_2 : Int) (x13_2 : List Int) (x53_2 : Int), v12 = .int .i64 x12_2 ∧ v53 = .int .i64 x53_2 ∧ Aside0 (platform_Explain.l1 kq a0 l1 a2 x12_2 x13_2 (l1.length : Int) x53_2 = some (r1, r2, r3)) ∧ Aside0 (kq ≤ k1) ∧ Aside0 (Kd.V k28 28 w' w.heap.size (fun k_ => (P1_ k_ ∨ w.heap.size ≤ k_) ∧ some k_ ≠ (v13 : Value).ownBlock) (.slice A1 l1.length c1) l1) ∧ Aside0 (Kd.R (Kd.int .i64) 3 w' w.heap.size (fun k_ => (w.heap.size ≤ k_)) v13 x13_2) ∧ Aside0 (Below w.heap.size w w'))
            case atStart => exact ⟨((wrap64 (a2 - t200))), (x13_1), (0), (by first | rfl | (simp; done) | (simp [*]; done)), (by first | rfl | (simp; done) | (simp [*]; done)), H', ⟨Nat.le_refl _⟩, ⟨by (with_reducible repeat (first | apply Kd.V_alloc | apply Kd.V_drewN | apply Kd.V_drew)); exact HO_1.out⟩, ⟨by (with_reducible repeat (first | apply Kd.R_alloc | apply Kd.R_drewN | apply Kd.R_drew)); exact HO_13.out⟩, ⟨by repeat (first | (with_reducible first | exact HB.out | apply below_alloc | apply pw_below_drewN | apply below_drew1) | exact HB.out)⟩⟩
            case round =>
              clear H'
              try clear c1
              try clear c2
              try clear p2
              try clear c5
              try clear c5b0
              try clear c5b1
              try clear p6
              try clear c7
              try clear c7b0
              try clear c7b1
              try clear c9
              try clear c9b0
              try clear c10
              try clear p2
              try clear p6
              obtain ⟨x12_2, x13_2, x53_2, rfl, rfl, HA, HK2, HO_1, HO_13, HB⟩ := hrel
              cases gk with
              | zero => exact absurd HA.out (by simp [platform_Explain.l1])
              | succ k2 =>
                have H := HA.out
                clear HA
                simp only [platform_Explain.l1] at H
                by_cases c12 : x53_2 < (l1.length : Int)
                · rw [if_pos c12] at H
                  have c12b0 : decide (x53_2 < (l1.length : Int)) = true := decide_eq_true c12
                  clear c12
                  replace H := Option.bind_eq_some_iff.mp H
                  obtain ⟨t207, A130, H⟩ := H
                  replace H : ((slices_Clone_int_int.f x13_2).bind fun t208 => ((slices_Delete_int_int.f t208 t207 (wrap64 (t207 + 1))).bind fun t211 => (platform_Explain.l2 k2 a0 l1 a2 x12_2 x13_2 t211 ([] : List (S28)) (l1.length : Int) x53_2 t211 (t211.length : Int) 0))) = some (r1, r2, r3) := H
                  have A13 := Aside0.mk A130
                  clear A130
                  replace H := Option.bind_eq_some_iff.mp H
                  obtain ⟨t208, A140, H⟩ := H
                  replace H : ((slices_Delete_int_int.f t208 t207 (wrap64 (t207 + 1))).bind fun t211 => (platform_Explain.l2 k2 a0 l1 a2 x12_2 x13_2 t211 ([] : List (S28)) (l1.length : Int) x53_2 t211 (t211.length : Int) 0)) = some (r1, r2, r3) := H
                  have A14 := Aside0.mk A140
                  clear A140
                  replace H := Option.bind_eq_some_iff.mp H
                  obtain ⟨t211, A150, H⟩ := H
                  replace H : (platform_Explain.l2 k2 a0 l1 a2 x12_2 x13_2 t211 ([] : List (S28)) (l1.length : Int) x53_2 t211 (t211.length : Int) 0) = some (r1, r2, r3) := H
                  have A15 := Aside0.mk A150
                  clear A150
                  have H' := Aside0.mk H
                  clear H
                  obtain ⟨Ao16, co16, eo16⟩ := Kd.R_slice HO_13.out
                  subst eo16
                  go_wp2_with (first | ((with_reducible refine gate_callee (f := 37) rfl ?_); refine goesL_ (some 58) rfl rfl Try.func37 (by kernel_rfl) rfl #[.slice Ao16 x13_2.length co16, .int .i64 x53_2] rfl (by (try simp only [List.map_toArray, List.map_cons, List.map_nil]); first | done | rfl | (simp only [List.length_drop, List.length_take]; rfl)) ?_; (with_reducible refine (slices_Index_int_int.calls k2 _ _ x13_2 x53_2 t207 _ ?side1 ?side2 A13.out).mono ?_); (case side1 => repeat (first | exact (Kd.R_reads' HO_13.out).2.2 | (with_reducible refine Kd.C_alloc ?_ _) | (with_reducible refine Kd.C_drewN ?_ _) | (with_reducible refine Kd.C_drew ?_))); (case side2 => exact (Kd.R_reads' HO_13.out).2.1); rintro e w' ⟨rfl, ⟨nd, rfl⟩⟩; refine ⟨_, rfl, ?_⟩) | ((with_reducible refine gate_callee (f := 39) rfl ?_); refine goesL_ (some 60) rfl rfl Try.func39 (by kernel_rfl) rfl #[.slice Ao16 x13_2.length co16] rfl (by (try simp only [List.map_toArray, List.map_cons, List.map_nil]); first | done | rfl | (simp only [List.length_drop, List.length_take]; rfl)) ?_; (with_reducible refine (slices_Clone_int_int.calls _ _ x13_2 t208 _ ?side1 ?side2 A14.out).mono ?_); (case side1 => repeat (first | exact (Kd.R_reads' HO_13.out).2.2 | (with_reducible refine Kd.C_alloc ?_ _) | (with_reducible refine Kd.C_drewN ?_ _) | (with_reducible refine Kd.C_drew ?_))); (case side2 => exact (Kd.R_reads' HO_13.out).2.1); rintro e w17 ⟨v209, rfl, ho0, hb⟩; refine ⟨_, rfl, ?_⟩; have n0_ := Aside0.mk (Kd.V_elder' (by (with_reducible repeat (first | apply Kd.V_alloc | apply Kd.V_drewN | apply Kd.V_drew)); exact HO_1.out) (Kd.R_base ho0) hb); have n1_ := Aside0.mk (Kd.R_elder' (by (with_reducible repeat (first | apply Kd.R_alloc | apply Kd.R_drewN | apply Kd.R_drew)); exact HO_13.out) (Kd.R_base ho0) hb); have n2_ := Aside0.mk (Kd.R_lower (Kd.R_new' (Kd.R_newM (M := fun k_ => (w.heap.size ≤ k_)) ho0 (below_size (by repeat (first | (with_reducible first | exact HB.out | apply below_alloc | apply pw_below_drewN | apply below_drew1) | exact HB.out))) (fun k_ h_ => h_)) (Kd.R_lt (by (with_reducible repeat (first | apply Kd.R_alloc | apply Kd.R_drewN | apply Kd.R_drew)); exact HO_13.out))) (below_size (by repeat (first | (with_reducible first | exact HB.out | apply below_alloc | apply pw_below_drewN | apply below_drew1) | exact HB.out)))); have n3_ := Aside0.mk (below_step (by repeat (first | (with_reducible first | exact HB.out | apply below_alloc | apply pw_below_drewN | apply below_drew1) | exact HB.out)) hb); clear HO_1; clear HO_13; clear HB; have HO_1 := n0_; have HO_13 := n1_; have HO210 := n2_; have HB := n3_; clear n0_ n1_ n2_ n3_; (try clear hb); (try clear hb2); (try clear hk); (try clear hi); (try clear ho0); obtain ⟨Ao18, co18, eo18⟩ := Kd.R_slice HO210.out; subst eo18) | ((with_reducible refine gate_callee (f := 38) rfl ?_); refine goesL_ (some 64) rfl rfl Try.func38 (by kernel_rfl) rfl #[.slice Ao18 t208.length co18, .int .i64 t207, .int .i64 (wrap64 (t207 + 1))] rfl (by (try simp only [List.map_toArray, List.map_cons, List.map_nil]); first | done | rfl | (simp only [List.length_drop, List.length_take]; rfl)) ?_; (with_reducible refine (slices_Delete_int_int.callsR w.heap.size _ _ t208 t207 (wrap64 (t207 + 1)) t211 _ HO210.out A15.out).mono ?_); rintro e w19 ⟨v212, rfl, ho0, hg, hat⟩; refine ⟨_, rfl, ?_⟩; have n0_ := Aside0.mk (Kd.V_mono (Kd.V_after (v1 := v212) HO_1.out hg (.inl hat)) (fun k_ hk => (⟨⟨hk.1, by rw [← hat]; exact hk.2⟩, hk.2⟩ : (_ ∧ some k_ ≠ (.slice Ao18 t208.length co18 : Value).ownBlock) ∧ _))); have n1_ := Aside0.mk (Kd.R_mono (Kd.R_after (v1 := v212) HO_13.out hg (.inl hat)) (fun k_ hk => (⟨⟨hk.1, by rw [← hat]; exact hk.2⟩, hk.2⟩ : (_ ∧ some k_ ≠ (.slice Ao18 t208.length co18 : Value).ownBlock) ∧ _))); have n3_ := Aside0.mk (Kd.R_mono ho0 (fun k_ hk => (⟨⟨⟨hk.1.1, trivial⟩, hk.2⟩, trivial⟩ : ((_ ∧ True) ∧ _) ∧ True))); have n4_ := Aside0.mk (pw_below_grown HB.out _ (below_size HB.out) hg (fun k_ h_ => Kd.R_base HO210.out k_ h_)); clear HO_1; clear HO_13; clear HO210; clear HB; have HO_1 := n0_; have HO_13 := n1_; have HO213 := n3_; have HB := n4_; clear n0_ n1_ n3_ n4_; clear hg hat ho0; obtain ⟨Ao20, co20, eo20⟩ := Kd.R_slice HO213.out; subst eo20))
                  go_loopg [18, 67] k2 (fun kq v18 v67 w' => ∃ (x18_3 : List (S28)) (x67_3 : Int), v67 = .int .i64 x67_3 ∧ Aside0 (platform_Explain.l2 kq a0 l1 a2 x12_2 x13_2 t211 x18_3 (l1.length : Int) x53_2 t211 (t211.length : Int) x67_3 = some (r1, r2, r3)) ∧ Aside0 (kq ≤ k2) ∧ Aside0 (Kd.V k28 28 w' w.heap.size (fun k_ => (P1_ k_ ∨ w.heap.size ≤ k_) ∧ some k_ ≠ ((.slice Ao16 x13_2.length co16) : Value).ownBlock ∧ some k_ ≠ ((.slice Ao20 t211.length co20) : Value).ownBlock ∧ some k_ ≠ (v18 : Value).ownBlock ∧ some k_ ≠ ((.slice Ao20 t211.length co20) : Value).ownBlock) (.slice A1 l1.length c1) l1) ∧ Aside0 (Kd.R (Kd.int .i64) 3 w' w.heap.size (fun k_ => (w.heap.size ≤ k_) ∧ some k_ ≠ ((.slice Ao20 t211.length co20) : Value).ownBlock ∧ some k_ ≠ ((.slice Ao20 t211.length co20) : Value).ownBlock) (.slice Ao16 x13_2.length co16) x13_2) ∧ Aside0 (Kd.R (Kd.int .i64) 3 w' w.heap.size (fun k_ => (w.heap.size ≤ k_) ∧ some k_ ≠ ((.slice Ao16 x13_2.length co16) : Value).ownBlock) (.slice Ao20 t211.length co20) t211) ∧ Aside0 (Kd.N k28 28 w' w.heap.size (fun k_ => (P1_ k_ ∨ w.heap.size ≤ k_) ∧ some k_ ≠ ((.slice Ao16 x13_2.length co16) : Value).ownBlock ∧ some k_ ≠ ((.slice Ao20 t211.length co20) : Value).ownBlock ∧ some k_ ≠ ((.slice Ao20 t211.length co20) : Value).ownBlock) v18 x18_3) ∧ Aside0 (Kd.R (Kd.int .i64) 3 w' w.heap.size (fun k_ => (w.heap.size ≤ k_) ∧ some k_ ≠ ((.slice Ao16 x13_2.length co16) : Value).ownBlock) (.slice Ao20 t211.length co20) t211) ∧ Aside0 (Below w.heap.size w w'))
                  case atStart => exact ⟨(([] : List (S28))), (0), (by first | rfl | (simp; done) | (simp [*]; done)), H', ⟨Nat.le_refl _⟩, ⟨by (with_reducible repeat (first | apply Kd.V_alloc | apply Kd.V_drewN | apply Kd.V_drew)); exact Kd.V_mono HO_1.out (fun _ hk => ⟨hk.1.1.1, ⟨hk.1.1.2, ⟨hk.2, ⟨(by simp [Value.ownBlock]), hk.2⟩⟩⟩⟩)⟩, ⟨by (with_reducible repeat (first | apply Kd.R_alloc | apply Kd.R_drewN | apply Kd.R_drew)); exact Kd.R_mono HO_13.out (fun _ hk => ⟨hk.1.1, ⟨hk.2, hk.2⟩⟩)⟩, ⟨by (with_reducible repeat (first | apply Kd.R_alloc | apply Kd.R_drewN | apply Kd.R_drew)); exact Kd.R_mono HO213.out (fun _ hk => ⟨hk.1.1.1, hk.1.2⟩)⟩, ⟨by first | exact Kd.S_nil _ _ _ _ _ | exact Kd.N_nil _ _ _ _ _ | exact Kd.V_nil _ _ _ _ _ | exact Kd.Q_nil _ _ _ _ _ | exact Kd.R_nil _ _ _ _ _⟩, ⟨by (with_reducible repeat (first | apply Kd.R_alloc | apply Kd.R_drewN | apply Kd.R_drew)); exact Kd.R_mono HO213.out (fun _ hk => ⟨hk.1.1.1, hk.1.2⟩)⟩, ⟨by repeat (first | (with_reducible first | exact HB.out | apply below_alloc | apply pw_below_drewN | apply below_drew1) | exact HB.out)⟩⟩
                  case round =>
                    clear H'
                    try clear c1
                    try clear c2
                    try clear p2
                    try clear c3
                    try clear c5
                    try clear c5b0
                    try clear c5b1
                    try clear p6
                    try clear c7
                    try clear c7b0
                    try clear c7b1
                    try clear c9
                    try clear c9b0
                    try clear c10
                    try clear c12
                    try clear c12b0
                    try clear c15
                    try clear p2
                    try clear p6
                    obtain ⟨x18_3, x67_3, rfl, HA, HK3, HO_1, HO_13, HO_17, HO_18, HO_65, HB⟩ := hrel
                    cases gk with
                    | zero => exact absurd HA.out (by simp [platform_Explain.l2])
                    | succ k3 =>
                      have H := HA.out
                      clear HA
                      simp only [platform_Explain.l2] at H
                      by_cases c21 : x67_3 < (t211.length : Int)
                      · rw [if_pos c21] at H
                        have c21b0 : decide (x67_3 < (t211.length : Int)) = true := decide_eq_true c21
                        clear c21
                        by_cases c22 : 0 ≤ x67_3
                        · rw [if_pos c22] at H
                          have c22b0 : decide (0 ≤ x67_3) = true := decide_eq_true c22
                          clear c22
                          by_cases c23 : x67_3 < (t211.length : Int)
                          · rw [if_pos c23] at H
                            have c23b0 : decide (x67_3 < (t211.length : Int)) = true := decide_eq_true c23
                            clear c23
                            by_cases c24 : 0 ≤ (rd t211 x67_3)
                            · rw [if_pos c24] at H
                              have c24b0 : decide (0 ≤ (rd t211 x67_3)) = true := decide_eq_true c24
                              clear c24
                              by_cases c25 : (rd t211 x67_3) < (l1.length : Int)
                              · rw [if_pos c25] at H
                                have c25b0 : decide ((rd t211 x67_3) < (l1.length : Int)) = true := decide_eq_true c25
                                clear c25
                                by_cases c26 : x18_3.length < 3518437208883
                                · rw [if_pos c26] at H
                                  have LMc26 := Aside0.mk c26
                                  clear c26
                                  obtain ⟨y216, hy216⟩ : ∃ y_ : List (S28), y_ = (x18_3 ++ [(⟨(rd_T28 l1 (rd t211 x67_3)).f0, (rd_T28 l1 (rd t211 x67_3)).f1, (rd_T28 l1 (rd t211 x67_3)).f2⟩ : S28)]) := ⟨_, rfl⟩
                                  replace H : (platform_Explain.l2 k3 a0 l1 a2 x12_2 x13_2 t211 y216 (l1.length : Int) x53_2 t211 (t211.length : Int) (wrap64 (x67_3 + 1))) = some (r1, r2, r3) := by first | (rw [hy216]; with_reducible exact H) | (have H2_ := (Option.bind_some _ _).symm.trans H; rw [hy216]; with_reducible exact H2_) | (have H2_ := (Option.bind_some _ _).symm.trans H; with_reducible exact H2_) | with_reducible exact H | (rw [hy216]; exact H) | exact H
                                  have Ny216 := Aside0.mk hy216
                                  clear hy216
                                  have H' := Aside0.mk H
                                  clear H
                                  have p214 : 0 ≤ (x67_3 : Int) := of_decide_eq_true (by first | (with_reducible assumption) | assumption)
                                  have q214 : x67_3 < (t211.length : Int) := of_decide_eq_true (by first | (with_reducible assumption) | assumption)
                                  obtain ⟨ad214, e214, hx214_0⟩ := Kd.at_int (Kd.R_reads' HO_65.out).2.2 x67_3 p214 q214
                                  cases e214
                                  replace p214 := eq_true p214
                                  replace q214 := eq_true q214
                                  have p215 : 0 ≤ ((rd t211 x67_3) : Int) := of_decide_eq_true (by first | (with_reducible assumption) | assumption)
                                  have q215 : (rd t211 x67_3) < (l1.length : Int) := of_decide_eq_true (by first | (with_reducible assumption) | assumption)
                                  obtain ⟨ad215, A215_2, c215_2, e215, hx215_0, hx215_1, hx215_2, hl215_2, hi215_2⟩ := at_T28 (Kd.V_reads' HO_1.out).2.2 (rd t211 x67_3) p215 q215
                                  cases e215
                                  obtain ⟨ce215, hce215, hMe215, hcc215⟩ := Kd.V_get HO_1.out z28 (rd t211 x67_3) p215 (by first | exact q215 | exact of_decide_eq_true (by first | (with_reducible assumption) | assumption) | (have e_ := (Kd.V_reads' HO_1.out).1; omega))
                                  obtain ⟨ua215_2, uc215_2, rfl, ul215_2, ge215_2⟩ := k28_openF hMe215
                                  have hv215_2 := hcc215 2 _ rfl
                                  rw [add_field _ _ 2 (by omega)] at hv215_2
                                  replace hv215_2 := Option.some.inj (hv215_2.symm.trans hx215_2)
                                  injection hv215_2 with hva_ hvn_ hvc_
                                  rw [hva_] at ge215_2
                                  rw [hvc_] at ul215_2
                                  have HL215_2 := Aside0.mk (show Kd.V (Kd.int .i64) 3 _ w.heap.size _ _ ((rd_T28 l1 (rd t211 x67_3)).f2) from Kd.V_mk ul215_2 ge215_2)
                                  clear hva_ hvn_ hvc_ ge215_2 ul215_2
                                  clear hcc215 hce215
                                  have HR215_2 := Aside0.mk hi215_2
                                  have HC215_2 := Aside0.mk hl215_2
                                  clear hi215_2 hl215_2
                                  replace p215 := eq_true p215
                                  replace q215 := eq_true q215
                                  go_wp2_with (first | ((with_reducible refine gate_builtin (b := .append) (xs := #[.tmp 71, .tmp 76]) rfl ?_); at_builtin; refine Kd.N_append k28 (w0 := w) w.heap.size rfl (.tmp 71) (.tmp 76) 24 28 (.agg #[(.int .i64 0), (.int .i64 0), (.slice none 0 0)]) 40 rfl Try.underlying24 info28 rfl (by decide) (by omega) u18 x18_3 (⟨(rd_T28 l1 (rd t211 x67_3)).f0, (rd_T28 l1 (rd t211 x67_3)).f1, (rd_T28 l1 (rd t211 x67_3)).f2⟩ : S28) [.int .i64 ((rd_T28 l1 (rd t211 x67_3)).f0), .int .i64 ((rd_T28 l1 (rd t211 x67_3)).f1), .slice A215_2 ((rd_T28 l1 (rd t211 x67_3)).f2).length c215_2] (fun k_ => (P1_ k_ ∨ w.heap.size ≤ k_) ∧ some k_ ≠ (.slice Ao16 x13_2.length co16 : Value).ownBlock ∧ some k_ ≠ (.slice (some ad214) t211.length co20 : Value).ownBlock ∧ some k_ ≠ (.slice (some ad214) t211.length co20 : Value).ownBlock) (fun k_ => ((fun k_ => (P1_ k_ ∨ w.heap.size ≤ k_) ∧ some k_ ≠ (.slice Ao16 x13_2.length co16 : Value).ownBlock ∧ some k_ ≠ (.slice (some ad214) t211.length co20 : Value).ownBlock ∧ some k_ ≠ (.slice (some ad214) t211.length co20 : Value).ownBlock)) k_ ∧ some k_ ≠ (u18 : Value).ownBlock) rfl rfl ?aP (fun _ hk => hk) ?aF ?aO ?aB ?aS ?aL ?_; (case aP => exact (k28_mkF _ _ (⟨(rd_T28 l1 (rd t211 x67_3)).f0, (rd_T28 l1 (rd t211 x67_3)).f1, (rd_T28 l1 (rd t211 x67_3)).f2⟩ : S28) (Kd.V_reads' (Kd.V_mono (ok' := (fun k_ => ((fun k_ => (P1_ k_ ∨ w.heap.size ≤ k_) ∧ some k_ ≠ (.slice Ao16 x13_2.length co16 : Value).ownBlock ∧ some k_ ≠ (.slice (some ad214) t211.length co20 : Value).ownBlock ∧ some k_ ≠ (.slice (some ad214) t211.length co20 : Value).ownBlock)) k_ ∧ some k_ ≠ (u18 : Value).ownBlock)) (HL215_2.out) (fun k_ hk => ⟨⟨hk.1, ⟨hk.2.1, ⟨hk.2.2.1, hk.2.2.2.2⟩⟩⟩, hk.2.2.2.1⟩))).2.1 (Kd.V_F (Kd.V_mono (ok' := (fun k_ => ((fun k_ => (P1_ k_ ∨ w.heap.size ≤ k_) ∧ some k_ ≠ (.slice Ao16 x13_2.length co16 : Value).ownBlock ∧ some k_ ≠ (.slice (some ad214) t211.length co20 : Value).ownBlock ∧ some k_ ≠ (.slice (some ad214) t211.length co20 : Value).ownBlock)) k_ ∧ some k_ ≠ (u18 : Value).ownBlock)) (HL215_2.out) (fun k_ hk => ⟨⟨hk.1, ⟨hk.2.1, ⟨hk.2.2.1, hk.2.2.2.2⟩⟩⟩, hk.2.2.2.1⟩))))); (case aB => exact (by repeat (first | (with_reducible first | exact HB.out | apply below_alloc | apply pw_below_drewN | apply below_drew1) | exact HB.out))); (case aF => exact (fun k_ hk => ⟨(.inr (Nat.le_trans (below_size (by repeat (first | (with_reducible first | exact HB.out | apply below_alloc | apply pw_below_drewN | apply below_drew1) | exact HB.out))) hk)), Kd.fresh' (Kd.R_lt (by (with_reducible repeat (first | apply Kd.R_alloc | apply Kd.R_drewN | apply Kd.R_drew)); exact HO_13.out)) k_ hk, Kd.fresh' (Kd.R_lt (by (with_reducible repeat (first | apply Kd.R_alloc | apply Kd.R_drewN | apply Kd.R_drew)); exact HO_17.out)) k_ hk, Kd.fresh' (Kd.R_lt (by (with_reducible repeat (first | apply Kd.R_alloc | apply Kd.R_drewN | apply Kd.R_drew)); exact HO_65.out)) k_ hk⟩)); (case aO => exact (by (with_reducible repeat (first | apply Kd.N_alloc | apply Kd.N_drewN | apply Kd.N_drew)); exact HO_18.out)); (case aS => exact (below_size (by repeat (first | (with_reducible first | exact HB.out | apply below_alloc | apply pw_below_drewN | apply below_drew1) | exact HB.out)))); (case aL => have := LMc26.out; omega); intro v217 w27 ho hb hg hat; rw [← Ny216.out] at ho; have n0_ := Aside0.mk (Kd.V_afterv (ok := (fun k_ => (P1_ k_ ∨ w.heap.size ≤ k_) ∧ some k_ ≠ (.slice Ao16 x13_2.length co16 : Value).ownBlock ∧ some k_ ≠ (.slice (some ad214) t211.length co20 : Value).ownBlock ∧ some k_ ≠ (.slice (some ad214) t211.length co20 : Value).ownBlock)) (by (with_reducible repeat (first | apply Kd.V_alloc | apply Kd.V_drewN | apply Kd.V_drew)); exact Kd.V_mono HO_1.out (fun _ hk => ⟨⟨hk.1, ⟨hk.2.1, ⟨hk.2.2.1, hk.2.2.2.2⟩⟩⟩, hk.2.2.2.1⟩)) hg hat); have n1_ := Aside0.mk (Kd.R_over' (by (with_reducible repeat (first | apply Kd.R_alloc | apply Kd.R_drewN | apply Kd.R_drew)); exact HO_13.out) (Kd.N_typed (by (with_reducible repeat (first | apply Kd.N_alloc | apply Kd.N_drewN | apply Kd.N_drew)); exact HO_18.out)) (by decide) hg); have n2_ := Aside0.mk (Kd.R_over' (by (with_reducible repeat (first | apply Kd.R_alloc | apply Kd.R_drewN | apply Kd.R_drew)); exact HO_17.out) (Kd.N_typed (by (with_reducible repeat (first | apply Kd.N_alloc | apply Kd.N_drewN | apply Kd.N_drew)); exact HO_18.out)) (by decide) hg); have n3_ := Aside0.mk (Kd.R_over' (by (with_reducible repeat (first | apply Kd.R_alloc | apply Kd.R_drewN | apply Kd.R_drew)); exact HO_65.out) (Kd.N_typed (by (with_reducible repeat (first | apply Kd.N_alloc | apply Kd.N_drewN | apply Kd.N_drew)); exact HO_18.out)) (by decide) hg); have n4_ := Aside0.mk (Kd.V_afterv (ok := (fun k_ => (P1_ k_ ∨ w.heap.size ≤ k_) ∧ some k_ ≠ (.slice Ao16 x13_2.length co16 : Value).ownBlock ∧ some k_ ≠ (.slice (some ad214) t211.length co20 : Value).ownBlock ∧ some k_ ≠ (.slice (some ad214) t211.length co20 : Value).ownBlock)) (by (with_reducible repeat (first | apply Kd.V_alloc | apply Kd.V_drewN | apply Kd.V_drew)); exact Kd.V_mono HL215_2.out (fun _ hk => ⟨⟨hk.1, ⟨hk.2.1, ⟨hk.2.2.1, hk.2.2.2.2⟩⟩⟩, hk.2.2.2.1⟩)) hg hat); have n5_ := Aside0.mk (hb); have n6_ := Aside0.mk (ho); clear HO_1; clear HO_13; clear HO_17; clear HO_65; clear HL215_2; clear HB; clear HO_18; have HO_1 := n0_; have HO_13 := n1_; have HO_17 := n2_; have HO_65 := n3_; have HL215_2 := n4_; have HB := n5_; have HO218 := n6_; clear n0_ n1_ n2_ n3_ n4_ n5_ n6_; clear ho hb hg hat))
                                  go_roundg k3
                                  case measure => have := HK1.out; have := HK2.out; have := HK3.out; omega
                                  case rel => exact ⟨(y216), (wrap64 (x67_3 + 1)), (by first | rfl | (simp; done) | (simp [*]; done)), H', ⟨by have := HK1.out; have := HK2.out; have := HK3.out; omega⟩, ⟨by (with_reducible repeat (first | apply Kd.V_alloc | apply Kd.V_drewN | apply Kd.V_drew)); exact Kd.V_mono HO_1.out (fun _ hk => ⟨hk.1.1, ⟨hk.1.2.1, ⟨hk.1.2.2.1, ⟨hk.2, hk.1.2.2.2⟩⟩⟩⟩)⟩, ⟨by (with_reducible repeat (first | apply Kd.R_alloc | apply Kd.R_drewN | apply Kd.R_drew)); exact HO_13.out⟩, ⟨by (with_reducible repeat (first | apply Kd.R_alloc | apply Kd.R_drewN | apply Kd.R_drew)); exact HO_17.out⟩, ⟨by (with_reducible repeat (first | apply Kd.N_alloc | apply Kd.N_drewN | apply Kd.N_drew)); exact HO218.out⟩, ⟨by (with_reducible repeat (first | apply Kd.R_alloc | apply Kd.R_drewN | apply Kd.R_drew)); exact HO_65.out⟩, ⟨by repeat (first | (with_reducible first | exact HB.out | apply below_alloc | apply pw_below_drewN | apply below_drew1) | exact HB.out)⟩⟩
                                · rw [if_neg c26] at H
                                  exact absurd H (by simp)
                              · rw [if_neg c25] at H
                                exact absurd H (by simp)
                            · rw [if_neg c24] at H
                              exact absurd H (by simp)
                          · rw [if_neg c23] at H
                            exact absurd H (by simp)
                        · rw [if_neg c22] at H
                          exact absurd H (by simp)
                      · rw [if_neg c21] at H
                        have c21b0 : decide (x67_3 < (t211.length : Int)) = false := decide_eq_false c21
                        clear c21
                        by_cases c28 : x12_2 < 1
                        · rw [if_pos c28] at H
                          have c28b0 : decide (x12_2 < 1) = true := decide_eq_true c28
                          clear c28
                          simp only [Option.some.injEq, Prod.mk.injEq] at H
                          obtain ⟨rfl, rfl, rfl⟩ := H
                          go_wp2
                          go_ret3
                          exact ⟨_, by first | rfl | (simp [errW_none, errW_some] <;> rfl) | (simp [*, errW_none, errW_some] <;> rfl), by first | exact Kd.R_nil _ _ _ _ _ | exact Kd.N_nil _ _ _ _ _ | exact Kd.V_nil _ _ _ _ _ | exact Kd.Q_nil _ _ _ _ _ | exact Kd.S_nil _ _ _ _ _, by repeat (first | (with_reducible first | exact HB.out | apply below_alloc | apply pw_below_drewN | apply below_drew1) | exact HB.out)⟩
                        · rw [if_neg c28] at H
                          have c28b0 : decide (x12_2 < 1) = false := decide_eq_false c28
                          clear c28
                          replace H := Option.bind_eq_some_iff.mp H
                          obtain ⟨⟨t219, t220, t221⟩, A290, H⟩ := H
                          replace H : (if t221 = 15 then (some (([] : List Int), 0, t221)) else (if t221 = 14 then (platform_Explain.l1 k3 a0 l1 a2 (wrap64 (x12_2 - t220)) t211 (l1.length : Int) (wrap64 (x53_2 + 1))) else (platform_Explain.l1 k3 a0 l1 a2 (wrap64 (x12_2 - t220)) x13_2 (l1.length : Int) (wrap64 (x53_2 + 1))))) = some (r1, r2, r3) := H
                          have A29 := Aside0.mk A290
                          clear A290
                          by_cases c30 : t221 = 15
                          · rw [if_pos c30] at H
                            have c30b0 : (t221 == 15) = true := beq_iff_eq.mpr c30
                            have c30b1 : (t221 != 15) = false := bne_eq_false_iff_eq.mpr c30
                            clear c30
                            simp only [Option.some.injEq, Prod.mk.injEq] at H
                            obtain ⟨rfl, rfl, rfl⟩ := H
                            obtain ⟨Ao31, co31, eo31⟩ := Kd.N_slice HO_18.out
                            subst eo31
                            go_wp2_with (first | ((with_reducible refine gate_callee (f := 15) rfl ?_); refine goesL_ (some 85) rfl rfl Try.func15 (by kernel_rfl) rfl #[.int .i64 a0, .slice Ao31 x18_3.length co31, .int .i64 x12_2] rfl (by (try simp only [List.map_toArray, List.map_cons, List.map_nil]); first | done | rfl | (simp only [List.length_drop, List.length_take]; rfl)) ?_; (with_reducible refine (platform_Assign.calls k3 a0 _ _ x18_3 x12_2 t219 t220 t221 _ ?side1 ?side2 A29.out).mono ?_); (case side1 => repeat (first | exact (Kd.N_reads' HO_18.out).2.2 | (with_reducible refine Kd.C_alloc ?_ _) | (with_reducible refine Kd.C_drewN ?_ _) | (with_reducible refine Kd.C_drew ?_))); (case side2 => exact (Kd.N_reads' HO_18.out).2.1); rintro e w32 ⟨v222, rfl, ho0, hb⟩; refine ⟨_, rfl, ?_⟩; have n0_ := Aside0.mk (Kd.V_elder' (by (with_reducible repeat (first | apply Kd.V_alloc | apply Kd.V_drewN | apply Kd.V_drew)); exact HO_1.out) (Kd.R_base ho0) hb); have n1_ := Aside0.mk (Kd.R_elder' (by (with_reducible repeat (first | apply Kd.R_alloc | apply Kd.R_drewN | apply Kd.R_drew)); exact HO_13.out) (Kd.R_base ho0) hb); have n2_ := Aside0.mk (Kd.R_elder' (by (with_reducible repeat (first | apply Kd.R_alloc | apply Kd.R_drewN | apply Kd.R_drew)); exact HO_17.out) (Kd.R_base ho0) hb); have n3_ := Aside0.mk (Kd.N_elder' (by (with_reducible repeat (first | apply Kd.N_alloc | apply Kd.N_drewN | apply Kd.N_drew)); exact HO_18.out) (Kd.R_base ho0) hb); have n4_ := Aside0.mk (Kd.R_elder' (by (with_reducible repeat (first | apply Kd.R_alloc | apply Kd.R_drewN | apply Kd.R_drew)); exact HO_65.out) (Kd.R_base ho0) hb); have n5_ := Aside0.mk (Kd.R_lower (Kd.R_new' (Kd.R_new' (Kd.R_new' (Kd.R_newM (M := fun k_ => (w.heap.size ≤ k_)) ho0 (below_size (by repeat (first | (with_reducible first | exact HB.out | apply below_alloc | apply pw_below_drewN | apply below_drew1) | exact HB.out))) (fun k_ h_ => h_)) (Kd.R_lt (by (with_reducible repeat (first | apply Kd.R_alloc | apply Kd.R_drewN | apply Kd.R_drew)); exact HO_13.out))) (Kd.R_lt (by (with_reducible repeat (first | apply Kd.R_alloc | apply Kd.R_drewN | apply Kd.R_drew)); exact HO_17.out))) (Kd.R_lt (by (with_reducible repeat (first | apply Kd.R_alloc | apply Kd.R_drewN | apply Kd.R_drew)); exact HO_65.out))) (below_size (by repeat (first | (with_reducible first | exact HB.out | apply below_alloc | apply pw_below_drewN | apply below_drew1) | exact HB.out)))); have n6_ := Aside0.mk (below_step (by repeat (first | (with_reducible first | exact HB.out | apply below_alloc | apply pw_below_drewN | apply below_drew1) | exact HB.out)) hb); clear HO_1; clear HO_13; clear HO_17; clear HO_18; clear HO_65; clear HB; have HO_1 := n0_; have HO_13 := n1_; have HO_17 := n2_; have HO_18 := n3_; have HO_65 := n4_; have HO223 := n5_; have HB := n6_; clear n0_ n1_ n2_ n3_ n4_ n5_ n6_; (try clear hb); (try clear hb2); (try clear hk); (try clear hi); (try clear ho0)))
                            go_ret3
                            exact ⟨_, by first | rfl | (simp [errW_none, errW_some] <;> rfl) | (simp [*, errW_none, errW_some] <;> rfl), by first | exact Kd.R_nil _ _ _ _ _ | exact Kd.N_nil _ _ _ _ _ | exact Kd.V_nil _ _ _ _ _ | exact Kd.Q_nil _ _ _ _ _ | exact Kd.S_nil _ _ _ _ _, by repeat (first | (with_reducible first | exact HB.out | apply below_alloc | apply pw_below_drewN | apply below_drew1) | exact HB.out)⟩
                          · rw [if_neg c30] at H
                            have c30b0 : (t221 == 15) = false := beq_eq_false_iff_ne.mpr c30
                            have c30b1 : (t221 != 15) = true := bne_iff_ne.mpr c30
                            by_cases c33 : t221 = 14
                            · rw [if_pos c33] at H
                              have c33b0 : (t221 == 14) = true := beq_iff_eq.mpr c33
                              have c33b1 : (t221 != 14) = false := bne_eq_false_iff_eq.mpr c33
                              clear c33
                              have H' := Aside0.mk H
                              clear H
                              obtain ⟨Ao34, co34, eo34⟩ := Kd.N_slice HO_18.out
                              subst eo34
                              go_wp2_with (first | ((with_reducible refine gate_callee (f := 15) rfl ?_); refine goesL_ (some 85) rfl rfl Try.func15 (by kernel_rfl) rfl #[.int .i64 a0, .slice Ao34 x18_3.length co34, .int .i64 x12_2] rfl (by (try simp only [List.map_toArray, List.map_cons, List.map_nil]); first | done | rfl | (simp only [List.length_drop, List.length_take]; rfl)) ?_; (with_reducible refine (platform_Assign.calls k3 a0 _ _ x18_3 x12_2 t219 t220 t221 _ ?side1 ?side2 A29.out).mono ?_); (case side1 => repeat (first | exact (Kd.N_reads' HO_18.out).2.2 | (with_reducible refine Kd.C_alloc ?_ _) | (with_reducible refine Kd.C_drewN ?_ _) | (with_reducible refine Kd.C_drew ?_))); (case side2 => exact (Kd.N_reads' HO_18.out).2.1); rintro e w35 ⟨v222, rfl, ho0, hb⟩; refine ⟨_, rfl, ?_⟩; have n0_ := Aside0.mk (Kd.V_elder' (by (with_reducible repeat (first | apply Kd.V_alloc | apply Kd.V_drewN | apply Kd.V_drew)); exact HO_1.out) (Kd.R_base ho0) hb); have n1_ := Aside0.mk (Kd.R_elder' (by (with_reducible repeat (first | apply Kd.R_alloc | apply Kd.R_drewN | apply Kd.R_drew)); exact HO_13.out) (Kd.R_base ho0) hb); have n2_ := Aside0.mk (Kd.R_elder' (by (with_reducible repeat (first | apply Kd.R_alloc | apply Kd.R_drewN | apply Kd.R_drew)); exact HO_17.out) (Kd.R_base ho0) hb); have n3_ := Aside0.mk (Kd.N_elder' (by (with_reducible repeat (first | apply Kd.N_alloc | apply Kd.N_drewN | apply Kd.N_drew)); exact HO_18.out) (Kd.R_base ho0) hb); have n4_ := Aside0.mk (Kd.R_elder' (by (with_reducible repeat (first | apply Kd.R_alloc | apply Kd.R_drewN | apply Kd.R_drew)); exact HO_65.out) (Kd.R_base ho0) hb); have n5_ := Aside0.mk (Kd.R_lower (Kd.R_new' (Kd.R_new' (Kd.R_new' (Kd.R_newM (M := fun k_ => (w.heap.size ≤ k_)) ho0 (below_size (by repeat (first | (with_reducible first | exact HB.out | apply below_alloc | apply pw_below_drewN | apply below_drew1) | exact HB.out))) (fun k_ h_ => h_)) (Kd.R_lt (by (with_reducible repeat (first | apply Kd.R_alloc | apply Kd.R_drewN | apply Kd.R_drew)); exact HO_13.out))) (Kd.R_lt (by (with_reducible repeat (first | apply Kd.R_alloc | apply Kd.R_drewN | apply Kd.R_drew)); exact HO_17.out))) (Kd.R_lt (by (with_reducible repeat (first | apply Kd.R_alloc | apply Kd.R_drewN | apply Kd.R_drew)); exact HO_65.out))) (below_size (by repeat (first | (with_reducible first | exact HB.out | apply below_alloc | apply pw_below_drewN | apply below_drew1) | exact HB.out)))); have n6_ := Aside0.mk (below_step (by repeat (first | (with_reducible first | exact HB.out | apply below_alloc | apply pw_below_drewN | apply below_drew1) | exact HB.out)) hb); clear HO_1; clear HO_13; clear HO_17; clear HO_18; clear HO_65; clear HB; have HO_1 := n0_; have HO_13 := n1_; have HO_17 := n2_; have HO_18 := n3_; have HO_65 := n4_; have HO223 := n5_; have HB := n6_; clear n0_ n1_ n2_ n3_ n4_ n5_ n6_; (try clear hb); (try clear hb2); (try clear hk); (try clear hi); (try clear ho0)))
                              go_roundg k3
                              case measure => have := HK1.out; have := HK2.out; have := HK3.out; omega
                              case rel => exact ⟨(wrap64 (x12_2 - t220)), (t211), (wrap64 (x53_2 + 1)), (by first | rfl | (simp; done) | (simp [*]; done)), (by first | rfl | (simp; done) | (simp [*]; done)), H', ⟨by have := HK1.out; have := HK2.out; have := HK3.out; omega⟩, ⟨by (with_reducible repeat (first | apply Kd.V_alloc | apply Kd.V_drewN | apply Kd.V_drew)); exact Kd.V_mono HO_1.out (fun _ hk => ⟨hk.1.1, hk.1.2.2.1⟩)⟩, ⟨by (with_reducible repeat (first | apply Kd.R_alloc | apply Kd.R_drewN | apply Kd.R_drew)); exact Kd.R_mono HO_17.out (fun _ hk => hk.1.1)⟩, ⟨by repeat (first | (with_reducible first | exact HB.out | apply below_alloc | apply pw_below_drewN | apply below_drew1) | exact HB.out)⟩⟩
                            · rw [if_neg c33] at H
                              have c33b0 : (t221 == 14) = false := beq_eq_false_iff_ne.mpr c33
                              have c33b1 : (t221 != 14) = true := bne_iff_ne.mpr c33
                              have H' := Aside0.mk H
                              clear H
                              obtain ⟨Ao36, co36, eo36⟩ := Kd.N_slice HO_18.out
                              subst eo36
                              go_wp2_with (first | ((with_reducible refine gate_callee (f := 15) rfl ?_); refine goesL_ (some 85) rfl rfl Try.func15 (by kernel_rfl) rfl #[.int .i64 a0, .slice Ao36 x18_3.length co36, .int .i64 x12_2] rfl (by (try simp only [List.map_toArray, List.map_cons, List.map_nil]); first | done | rfl | (simp only [List.length_drop, List.length_take]; rfl)) ?_; (with_reducible refine (platform_Assign.calls k3 a0 _ _ x18_3 x12_2 t219 t220 t221 _ ?side1 ?side2 A29.out).mono ?_); (case side1 => repeat (first | exact (Kd.N_reads' HO_18.out).2.2 | (with_reducible refine Kd.C_alloc ?_ _) | (with_reducible refine Kd.C_drewN ?_ _) | (with_reducible refine Kd.C_drew ?_))); (case side2 => exact (Kd.N_reads' HO_18.out).2.1); rintro e w37 ⟨v222, rfl, ho0, hb⟩; refine ⟨_, rfl, ?_⟩; have n0_ := Aside0.mk (Kd.V_elder' (by (with_reducible repeat (first | apply Kd.V_alloc | apply Kd.V_drewN | apply Kd.V_drew)); exact HO_1.out) (Kd.R_base ho0) hb); have n1_ := Aside0.mk (Kd.R_elder' (by (with_reducible repeat (first | apply Kd.R_alloc | apply Kd.R_drewN | apply Kd.R_drew)); exact HO_13.out) (Kd.R_base ho0) hb); have n2_ := Aside0.mk (Kd.R_elder' (by (with_reducible repeat (first | apply Kd.R_alloc | apply Kd.R_drewN | apply Kd.R_drew)); exact HO_17.out) (Kd.R_base ho0) hb); have n3_ := Aside0.mk (Kd.N_elder' (by (with_reducible repeat (first | apply Kd.N_alloc | apply Kd.N_drewN | apply Kd.N_drew)); exact HO_18.out) (Kd.R_base ho0) hb); have n4_ := Aside0.mk (Kd.R_elder' (by (with_reducible repeat (first | apply Kd.R_alloc | apply Kd.R_drewN | apply Kd.R_drew)); exact HO_65.out) (Kd.R_base ho0) hb); have n5_ := Aside0.mk (Kd.R_lower (Kd.R_new' (Kd.R_new' (Kd.R_new' (Kd.R_newM (M := fun k_ => (w.heap.size ≤ k_)) ho0 (below_size (by repeat (first | (with_reducible first | exact HB.out | apply below_alloc | apply pw_below_drewN | apply below_drew1) | exact HB.out))) (fun k_ h_ => h_)) (Kd.R_lt (by (with_reducible repeat (first | apply Kd.R_alloc | apply Kd.R_drewN | apply Kd.R_drew)); exact HO_13.out))) (Kd.R_lt (by (with_reducible repeat (first | apply Kd.R_alloc | apply Kd.R_drewN | apply Kd.R_drew)); exact HO_17.out))) (Kd.R_lt (by (with_reducible repeat (first | apply Kd.R_alloc | apply Kd.R_drewN | apply Kd.R_drew)); exact HO_65.out))) (below_size (by repeat (first | (with_reducible first | exact HB.out | apply below_alloc | apply pw_below_drewN | apply below_drew1) | exact HB.out)))); have n6_ := Aside0.mk (below_step (by repeat (first | (with_reducible first | exact HB.out | apply below_alloc | apply pw_below_drewN | apply below_drew1) | exact HB.out)) hb); clear HO_1; clear HO_13; clear HO_17; clear HO_18; clear HO_65; clear HB; have HO_1 := n0_; have HO_13 := n1_; have HO_17 := n2_; have HO_18 := n3_; have HO_65 := n4_; have HO223 := n5_; have HB := n6_; clear n0_ n1_ n2_ n3_ n4_ n5_ n6_; (try clear hb); (try clear hb2); (try clear hk); (try clear hi); (try clear ho0)))
                              go_roundg k3
                              case measure => have := HK1.out; have := HK2.out; have := HK3.out; omega
                              case rel => exact ⟨(wrap64 (x12_2 - t220)), (x13_2), (wrap64 (x53_2 + 1)), (by first | rfl | (simp; done) | (simp [*]; done)), (by first | rfl | (simp; done) | (simp [*]; done)), H', ⟨by have := HK1.out; have := HK2.out; have := HK3.out; omega⟩, ⟨by (with_reducible repeat (first | apply Kd.V_alloc | apply Kd.V_drewN | apply Kd.V_drew)); exact Kd.V_mono HO_1.out (fun _ hk => ⟨hk.1.1, hk.1.2.1⟩)⟩, ⟨by (with_reducible repeat (first | apply Kd.R_alloc | apply Kd.R_drewN | apply Kd.R_drew)); exact Kd.R_mono HO_13.out (fun _ hk => hk.1.1)⟩, ⟨by repeat (first | (with_reducible first | exact HB.out | apply below_alloc | apply pw_below_drewN | apply below_drew1) | exact HB.out)⟩⟩
                · rw [if_neg c12] at H
                  have c12b0 : decide (x53_2 < (l1.length : Int)) = false := decide_eq_false c12
                  clear c12
                  simp only [Option.some.injEq, Prod.mk.injEq] at H
                  obtain ⟨rfl, rfl, rfl⟩ := H
                  go_wp2
                  go_ret3
                  exact ⟨_, by first | rfl | (simp [errW_none, errW_some] <;> rfl) | (simp [*, errW_none, errW_some] <;> rfl), by (with_reducible repeat (first | apply Kd.R_alloc | apply Kd.R_drewN | apply Kd.R_drew)); exact HO_13.out, by repeat (first | (with_reducible first | exact HB.out | apply below_alloc | apply pw_below_drewN | apply below_drew1) | exact HB.out)⟩
    · rw [if_neg c7] at H
      have c7b0 : (t201 == 14) = false := beq_eq_false_iff_ne.mpr c7
      have c7b1 : (t201 != 14) = true := bne_iff_ne.mpr c7
      simp only [Option.some.injEq, Prod.mk.injEq] at H
      obtain ⟨rfl, rfl, rfl⟩ := H
      go_enter Try.func23, Try.ntmps23
      go_wp2_with (first | ((with_reducible refine gate_callee (f := 15) rfl ?_); refine goesL_ (some 28) rfl rfl Try.func15 (by kernel_rfl) rfl #[.int .i64 a0, .slice A1 l1.length c1, .int .i64 a2] rfl (by (try simp only [List.map_toArray, List.map_cons, List.map_nil]); first | done | rfl | (simp only [List.length_drop, List.length_take]; rfl)) ?_; (with_reducible refine (platform_Assign.calls k a0 _ _ l1 a2 t199 t200 t201 _ ?side1 ?side2 A4.out).mono ?_); (case side1 => repeat (first | exact (Kd.V_reads' HO1.out).2.2 | (with_reducible refine Kd.C_alloc ?_ _) | (with_reducible refine Kd.C_drewN ?_ _) | (with_reducible refine Kd.C_drew ?_))); (case side2 => exact (Kd.V_reads' HO1.out).2.1); rintro e w38 ⟨v202, rfl, ho0, hb⟩; refine ⟨_, rfl, ?_⟩; have n0_ := Aside0.mk (Kd.V_elder' (by (with_reducible repeat (first | apply Kd.V_alloc | apply Kd.V_drewN | apply Kd.V_drew)); exact HO1.out) (Kd.R_base ho0) hb); have n1_ := Aside0.mk (Kd.R_lower (Kd.R_newM (M := fun k_ => (w.heap.size ≤ k_)) ho0 (below_size (by repeat (first | (with_reducible first | exact HB.out | apply below_alloc | apply pw_below_drewN | apply below_drew1) | exact HB.out))) (fun k_ h_ => h_)) (below_size (by repeat (first | (with_reducible first | exact HB.out | apply below_alloc | apply pw_below_drewN | apply below_drew1) | exact HB.out)))); have n2_ := Aside0.mk (below_step (by repeat (first | (with_reducible first | exact HB.out | apply below_alloc | apply pw_below_drewN | apply below_drew1) | exact HB.out)) hb); clear HO1; clear HB; have HO1 := n0_; have HO203 := n1_; have HB := n2_; clear n0_ n1_ n2_; (try clear hb); (try clear hb2); (try clear hk); (try clear hi); (try clear ho0)))
      go_ret3
      exact ⟨_, by first | rfl | (simp [errW_none, errW_some] <;> rfl) | (simp [*, errW_none, errW_some] <;> rfl), by first | exact Kd.R_nil _ _ _ _ _ | exact Kd.N_nil _ _ _ _ _ | exact Kd.V_nil _ _ _ _ _ | exact Kd.Q_nil _ _ _ _ _ | exact Kd.S_nil _ _ _ _ _, by repeat (first | (with_reducible first | exact HB.out | apply below_alloc | apply pw_below_drewN | apply below_drew1) | exact HB.out)⟩

-- NOT PRINTED: function 41 (railplanref19_assigner_visit)

end Go.Proofs.Ytdgdjbehddeepaa.PAll
