/- What calls of the Go functions below do, each under the premises that its theorem states. Laid by a program of the claimant, which drives the kit's print; some texts are written by hand. -/
import Derived.Test.YtdgdjbehddeepaaPAllx0
import Derived.Test.YtdgdjbehddeepaaPAllxf15
import Derived.Test.YtdgdjbehddeepaaPAllxf18
import Derived.Test.YtdgdjbehddeepaaPAllxf32
import Derived.Test.YtdgdjbehddeepaaPAllxp11
import Derived.Test.YtdgdjbehddeepaaPAllxp12
namespace Go.Proofs.Ytdgdjbehddeepaa.PAll
open Go.RowKit Go.Proofs.YtdgdjbehddeepaaW.PrintWords Go.Proofs.YtdgdjbehddeepaaW.PrintLast Go.Proofs.YtdgdjbehddeepaaW.PrintMore
attribute [local go_sem] max2_int min2_int max_two min_two max_three min_three max_four min_four   -- for this text's walks alone
set_option linter.unusedVariables false
set_option linter.unusedSimpArgs false

theorem vis_mono : ∀ k, (∀ y0 y1 y2 y3 y4 y5, LeO (vis_f k y0 y1 y2 y3 y4 y5) (vis_f (k + 1) y0 y1 y2 y3 y4 y5)) ∧ (∀ y0 y1 y2 y3 y4 y5 y6 y7, LeO (vis_l k y0 y1 y2 y3 y4 y5 y6 y7) (vis_l (k + 1) y0 y1 y2 y3 y4 y5 y6 y7))
  | 0 => ⟨fun _ _ _ _ _ _ r h => by simp [vis_f] at h, fun _ _ _ _ _ _ _ _ r h => by simp [vis_l] at h⟩
  | k + 1 => by
    obtain ⟨ih0, ih1⟩ := vis_mono k
    refine ⟨?_, ?_⟩
    · intro y0 y1 y2 y3 y4 y5
      unfold vis_f
      repeat' first
      | exact ih1 _ _ _ _ _ _ _ _
      | exact LeO.refl _
      | exact LeO.none _
      | refine LeO.ite ?_ ?_
    · intro y0 y1 y2 y3 y4 y5 y6 y7
      unfold vis_l
      repeat' first
      | exact ih1 _ _ _ _ _ _ _ _
      | exact ih0 _ _ _ _ _ _
      | exact railplanref19_Proper.mono _ _ _ _
      | exact LeO.refl _
      | exact LeO.none _
      | refine LeO.ite ?_ ?_
      | refine LeO.bind ?_ (fun _ => ?_)

/-! ### railplanref19_Assign: function 24 -/
def railplanref19_Assign.f (k : Nat) (a0 : Int) (l1 : List (S28)) (a2 : Int) : Option (List Int × Int × Int) := (railplanref19_ValidVisits.f k a0 l1).bind fun b => if b = true then (railplanref19_in.f a2 1 1048576).bind fun b2 => (if b2 = true then (vis_f k a0 l1 a2 0 false []).bind fun o => if o.1 = true then some (o.2.2.2, o.2.1, 0) else if o.2.2.1 = true then some ([], 0, 15) else some ([], o.2.1, 14) else some ([], 0, 4)) else some ([], 0, 1)
theorem railplanref19_Assign.mono : ∀ a0 a1 a2 k, LeO (railplanref19_Assign.f k a0 a1 a2) (railplanref19_Assign.f (k + 1) a0 a1 a2) := by
  intro a0 a1 a2 k
  unfold railplanref19_Assign.f
  repeat' first
      | exact (vis_mono k).1 _ _ _ _ _ _
      | exact railplanref19_ValidVisits.mono _ _ _
      | exact LeO.refl _
      | exact LeO.none _
      | refine LeO.ite ?_ ?_
      | refine LeO.bind ?_ (fun _ => ?_)
set_option maxHeartbeats 8000000 in
set_option maxRecDepth 100000 in
theorem railplanref19_Assign.calls (k : Nat) (a0 : Int) (A1 : Option Addr) (c1 : Nat) (l1 : List (S28)) (a2 : Int) (r1 : List Int) (r2 : Int) (r3 : Int) (w : World) (hr1 : Kd.C k28 w A1 l1.length l1) (hc1 : l1.length ≤ c1) (h : railplanref19_Assign.f k a0 l1 a2 = some (r1, r2, r3)) :
    Calls Try.prog 24 #[.int .i64 a0, .slice A1 l1.length c1, .int .i64 a2] w fun e w' => ∃ v0_ : Value, e = .returned (.tuple #[v0_, .int .i64 r2, .int .i64 r3]) ∧ Kd.R (Kd.int .i64) 3 w' w.heap.size (fun _ => True) v0_ r1 ∧ Below w.heap.size w w' := by
  have HR1 := Aside0.mk hr1
  have HC1 := Aside0.mk hc1
  clear hr1 hc1
  obtain ⟨b, hb, h⟩ := Option.bind_eq_some_iff.mp h
  have K29 := Aside0.mk (railplanref19_ValidVisits.calls k a0 A1 c1 l1 b w HR1.out HC1.out hb)
  clear hb
  cases b with
  | false =>
    rw [if_neg (by simp)] at h
    simp only [Option.some.injEq, Prod.mk.injEq] at h
    obtain ⟨rfl, rfl, rfl⟩ := h
    go_enter Try.func24, Try.ntmps24
    go_wp2_with (first | (go_at_call 32; (with_reducible refine K29.out.mono ?_); rintro e w4 ⟨rfl, hB4⟩; replace hB4 := hB4.below))
    go_ret3
    exact ⟨_, rfl, Kd.R_nil _ _ _ _ _, by assumption⟩
  | true =>
    rw [if_pos rfl] at h
    obtain ⟨b2, hb2, h⟩ := Option.bind_eq_some_iff.mp h
    have K40 := Aside0.mk (fun (W : World) => railplanref19_in.calls a2 1 1048576 b2 W hb2)
    clear hb2
    cases b2 with
    | false =>
      rw [if_neg (by simp)] at h
      simp only [Option.some.injEq, Prod.mk.injEq] at h
      obtain ⟨rfl, rfl, rfl⟩ := h
      go_enter Try.func24, Try.ntmps24
      go_wp2_with (first
        | (go_at_call 32; (with_reducible refine K29.out.mono ?_); rintro e w4 ⟨rfl, hB4⟩; replace hB4 := hB4.below)
        | (go_at_call 40; (with_reducible refine (K40.out _).mono ?_); rintro e w5 ⟨rfl, hB5⟩; replace hB5 := below_step (show Below w.heap.size w _ from by assumption) hB5.below))
      go_ret3
      exact ⟨_, rfl, Kd.R_nil _ _ _ _ _, hB5⟩
    | true =>
      rw [if_pos rfl] at h
      obtain ⟨⟨ok, us, ov, ch⟩, hvis, h⟩ := Option.bind_eq_some_iff.mp h
      have HH := Aside0.mk h
      have KE := Aside0.mk (fun (W : World) (g : Nat) (hS : St64 W g a0 A1 l1.length c1 a2 0 false (.slice none 0 0)) (hg : w.heap.size ≤ g) (hB : Below w.heap.size w W) => vis_calls k g a0 A1 c1 l1 a2 0 false (.slice none 0 0) [] ok us ov ch w W hS hg hB HR1.out HC1.out (Kd.R_nil _ _ _ _ _) hvis)
      clear h hvis
      cases ok <;> cases ov
      all_goals
        go_enter Try.func24, Try.ntmps24
        go_wp2_with (first
          | (go_at_call 32; (with_reducible refine K29.out.mono ?_); rintro e w4 ⟨rfl, hB4⟩; replace hB4 := hB4.below)
          | (go_at_call 40; (with_reducible refine (K40.out _).mono ?_); rintro e w5 ⟨rfl, hB5⟩; replace hB5 := below_step (show Below w.heap.size w _ from by assumption) hB5.below; clear hB4)
          | ((with_reducible refine gate_dst (N := 21) rfl ?_); refine box_event ?hg (N := 21) ?hd (cs := #[.int .i64 a0, .slice A1 l1.length c1, .int .i64 a2, .int .i64 0, .bool false, .slice none 0 0]) (t := 64) ?hr ?_; (case hd => rfl); (case hg => rfl); (case hr => first | (go_simp; done) | (go_simp; rfl)); intro gb hg w6 hbox hb6; have HG := Aside0.mk (show w.heap.size ≤ gb from by rw [hg]; exact below_size (by assumption)); have HBX := Aside0.mk (show St64 w6 gb a0 A1 l1.length c1 a2 0 false (.slice none 0 0) from hbox); have HB6 := Aside0.mk (below_step (show Below w.heap.size w _ from by assumption) hb6); clear hbox hb6 hg)
          | (go_at_call 41; (with_reducible refine (KE.out _ _ HBX.out HG.out HB6.out).mono ?_); rintro e w7 ⟨rfl, vc7, hS7, hC7, hR7, hB7, hK7⟩; have HS7 := Aside0.mk hS7; have HR7 := Aside0.mk hR7; have HB7 := Aside0.mk hB7; obtain ⟨_, _, _, hc3, hc4, hc5, _, _, _⟩ := hS7.cells; clear hS7 hR7 hB7 hK7 hC7))
        all_goals
          have h := HH.out
          simp only [Bool.false_eq_true, if_true, if_false, Option.some.injEq, Prod.mk.injEq] at h
          obtain ⟨rfl, rfl, rfl⟩ := h
        first
          | (go_ret3; exact ⟨_, rfl, Kd.R_nil _ _ _ _ _, HB7.out⟩)
          | (obtain ⟨A7, c7, e7⟩ := Kd.R_slice (HR7.out trivial); subst e7; go_quiet (fail); go_wp2; go_ret3; exact ⟨_, rfl, Kd.R_mono (Kd.R_drewN (HR7.out trivial) _) (fun _ _ => trivial), pw_below_drewN HB7.out _⟩)
          | (go_quiet (fail); go_wp2; go_ret3; exact ⟨_, rfl, Kd.R_nil _ _ _ _ _, pw_below_drewN HB7.out _⟩)



/-! ### railplanref17_Without: function 27 -/
def railplanref17_Without.f (l0 : List Int) (a1 : Int) : Option (List Int) := if 0 ≤ a1 then if a1 < (l0.length : Int) then if l0.length < 17592186044416 then some (l0.take a1.toNat ++ l0.drop (a1.toNat + 1)) else none else none else none
set_option maxHeartbeats 8000000 in
set_option maxRecDepth 100000 in
theorem railplanref17_Without.calls (A0 : Option Addr) (c0 : Nat) (l0 : List Int) (a1 : Int) (r : List Int) (w : World) (hr0 : Kd.C (Kd.int .i64) w A0 l0.length l0) (hc0 : l0.length ≤ c0) (h : railplanref17_Without.f l0 a1 = some r) :
    Calls Try.prog 27 #[.slice A0 l0.length c0, .int .i64 a1] w fun e w' => ∃ v0_ : Value, e = .returned (v0_) ∧ Kd.R (Kd.int .i64) 3 w' w.heap.size (fun _ => True) v0_ r ∧ Below w.heap.size w w' := by
  have hq : 0 ≤ a1 ∧ a1 < (l0.length : Int) ∧ l0.length < 17592186044416 ∧ l0.take a1.toNat ++ l0.drop (a1.toNat + 1) = r := by
    unfold railplanref17_Without.f at h
    split at h
    · split at h
      · split at h
        · exact ⟨by assumption, by assumption, by assumption, Option.some.inj h⟩
        · cases h
      · cases h
    · cases h
  clear h
  obtain ⟨h0, h1, hl, rfl⟩ := hq
  obtain ⟨j2, hj2⟩ : ∃ j2 : Int, j2 = a1 + 1 := ⟨_, rfl⟩
  have hjw : IntKind.i64.wrap (a1 + 1) = j2 := by rw [i64_w, IntWalk.wrap64_in _ (by omega)]; exact hj2.symm
  obtain ⟨hn1, hn2⟩ : a1.toNat + 1 = j2.toNat ∧ a1.toNat ≤ l0.length := by omega
  rw [hn1]
  have g0 : 0 ≤ j2 := by omega
  have g1 : j2 ≤ l0.length := by omega
  obtain ⟨i0, hi0, _, hsz0, _⟩ := info_parts info3
  obtain ⟨hcut1, hA1, hC1⟩ := print_take_of (P := Try.prog) (Value.int .i64) 0 22 3 .i64 Try.underlying22 hi0 hsz0 A0 c0 l0 a1 h0 (by omega) hc0
  obtain ⟨A2, hcut2, hA2, hC2⟩ := print_drop_of (P := Try.prog) (Value.int .i64) 0 22 3 .i64 Try.underlying22 hi0 hsz0 A0 c0 l0 j2 g0 g1 hc0
  have HT := Aside0.mk (Kd.C_of_reads (h1 := fun _ => rfl) (hA1 _ (Kd.reads_of_C hr0)))
  have HD := Aside0.mk (Kd.C_of_reads (h1 := fun _ => rfl) (hA2 _ (Kd.reads_of_C hr0)))
  clear hA1 hA2 hC1 hC2 hi0 hsz0 hr0 hc0 h0 h1 g0 g1
  obtain ⟨p, hp⟩ : ∃ p, p = l0.take a1.toNat := ⟨_, rfl⟩
  obtain ⟨q, hq⟩ : ∃ q, q = l0.drop j2.toNat := ⟨_, rfl⟩
  have HL := Aside0.mk (show p.length + q.length < 17592186044416 by rw [hp, hq, List.length_take, List.length_drop]; omega)
  rw [← hp] at hcut1 HT ⊢
  rw [← hq] at hcut2 HD ⊢
  clear hp hq hj2 hn1 hn2 hl
  have u22 := Try.underlying22
  have HB := Aside0.mk (Below.refl w.heap.size w)
  go_enter Try.func27, Try.ntmps27
  go_wp2
  go_region_held3 (fun w' => Below w.heap.size w w')
    (first | exact HB.out | exact below_drew HB.out | assumption)
    (first
      | (refine Kd.R_append_rows_step (Kd.int .i64) (w0 := w) w.heap.size (by rfl) _ (.tmp 7) 22 3 (.int .i64 0) 8 rfl Try.underlying22 info3 rfl (by decide) (by omega) (.slice none 0 0) [] p A0 p.length c0 (fun _ => True) (fun _ => False) rfl rfl (Kd.R_nil _ _ _ _ _) (Kd.C_below HT.out (by first | exact HB.out | exact below_drew HB.out | assumption)) (fun _ _ h => h) (fun _ hk => hk.elim) (fun _ _ => trivial) (by first | exact HB.out | exact below_drew HB.out | assumption) (by first | exact Nat.le_refl _ | (exact below_size (by assumption))) (by have := HL.out; simp only [List.length_nil]; omega) ?_
         intro v1 w1 hR1 hB1 _ _)
      | (refine Kd.R_append_rows_step (Kd.int .i64) (w0 := w) w.heap.size (by rfl) (.tmp 8) (.tmp 12) 22 3 (.int .i64 0) 8 rfl Try.underlying22 info3 rfl (by decide) (by omega) _ p q A2 q.length (c0 - j2.toNat) (fun _ => True) (fun _ => False) rfl rfl (by assumption) (Kd.C_below HD.out (by assumption)) (fun _ _ h => h) (fun _ hk => hk.elim) (fun _ _ => trivial) (by assumption) (below_size (by assumption)) (by have := HL.out; omega) ?_
         intro v2 w2 hR2 hB2 _ _))
  all_goals (go_wp2; go_ret; exact ⟨_, rfl, by assumption, by assumption⟩)

/-! ### railplanref19_some: function 44 -/
def railplanref19_some.l0 : Nat → List (S28) → List Int → List (S28) → Int → Int → Option ((List (S28)))
  | 0, _, _, _, _, _ => none
  | k + 1, x0, x1, x5, x8, x9 => if x9 < x8 then (if 0 ≤ x9 then (if x9 < (x1.length : Int) then (if 0 ≤ (rd x1 x9) then (if (rd x1 x9) < (x0.length : Int) then (if x5.length < 3518437208883 then (railplanref19_some.l0 k x0 x1 (x5 ++ [(⟨(rd_T28 x0 (rd x1 x9)).f0, (rd_T28 x0 (rd x1 x9)).f1, (rd_T28 x0 (rd x1 x9)).f2⟩ : S28)]) x8 (wrap64 (x9 + 1))) else (none)) else (none)) else (none)) else (none)) else (none)) else (some x5)
def railplanref19_some.f (k : Nat) (l0 : List (S28)) (l1 : List Int) : Option ((List (S28))) := railplanref19_some.l0 k l0 l1 ([] : List (S28)) (l1.length : Int) 0
theorem railplanref19_some.mono_l : ∀ k, (∀ y0 y1 y2 y3 y4, LeO (railplanref19_some.l0 k y0 y1 y2 y3 y4) (railplanref19_some.l0 (k + 1) y0 y1 y2 y3 y4))
  | 0 => fun _ _ _ _ _ r h => by simp [railplanref19_some.l0] at h
  | k + 1 => by
    have ih0 := railplanref19_some.mono_l k
    · intro y0 y1 y2 y3 y4
      unfold railplanref19_some.l0
      repeat' first
      | (with_reducible exact ih0 _ _ _ _ _)
      | (with_reducible exact LeO.refl _)
      | (with_reducible exact LeO.none _)
      | (with_reducible refine LeO.ite ?_ ?_)
      | (with_reducible refine LeO.bind ?_ (fun _ => ?_))
      | exact ih0 _ _ _ _ _
      | exact LeO.none _
      | refine LeO.ite ?_ ?_
      | refine LeO.bind ?_ (fun _ => ?_)
theorem railplanref19_some.mono : ∀ a0 a1 k, LeO (railplanref19_some.f k a0 a1) (railplanref19_some.f (k + 1) a0 a1) := by
  intro a0 a1 k
  have ih0 := railplanref19_some.mono_l k
  unfold railplanref19_some.f
  repeat' first
      | (with_reducible exact ih0 _ _ _ _ _)
      | (with_reducible exact LeO.refl _)
      | (with_reducible exact LeO.none _)
      | (with_reducible refine LeO.ite ?_ ?_)
      | (with_reducible refine LeO.bind ?_ (fun _ => ?_))
      | exact ih0 _ _ _ _ _
      | exact LeO.none _
      | refine LeO.ite ?_ ?_
      | refine LeO.bind ?_ (fun _ => ?_)
set_option maxHeartbeats 8000000 in
set_option maxRecDepth 100000 in
theorem railplanref19_some.calls (k : Nat) (P0_ : Nat → Prop) (A0 : Option Addr) (c0 : Nat) (l0 : List (S28)) (A1 : Option Addr) (c1 : Nat) (l1 : List Int) (r : List (S28)) (w : World) (hs0 : Kd.V k28 28 w w.heap.size (fun k_ => P0_ k_) (.slice A0 l0.length c0) l0) (hr1 : Kd.C (Kd.int .i64) w A1 l1.length l1) (hc1 : l1.length ≤ c1) (h : railplanref19_some.f k l0 l1 = some r) :
    Calls Try.prog 44 #[.slice A0 l0.length c0, .slice A1 l1.length c1] w fun e w' => ∃ v0_ : Value, e = .returned (v0_) ∧ Kd.N k28 28 w' w.heap.size (fun k_ => (P0_ k_ ∨ w.heap.size ≤ k_)) v0_ r ∧ Below w.heap.size w w' := by
  have hu28 := Try.underlying28
  have HO0 := Aside0.mk (show Kd.V k28 28 w w.heap.size (fun k_ => (P0_ k_ ∨ w.heap.size ≤ k_)) (.slice A0 l0.length c0) l0 from Kd.V_mono hs0 (fun k_ hk => .inl hk))
  have HR1 := Aside0.mk hr1
  have HC1 := Aside0.mk hc1
  clear hr1 hc1
  have HB := Aside0.mk (Below.refl w.heap.size w)
  have H : (railplanref19_some.l0 k l0 l1 ([] : List (S28)) (l1.length : Int) 0) = some r := h
  clear h
  have H' := Aside0.mk H
  clear H
  go_enter Try.func44, Try.ntmps44
  go_wp2
  go_loopg [5, 9] k (fun kq v5 v9 w' => ∃ (x5_1 : List (S28)) (x9_1 : Int), v9 = .int .i64 x9_1 ∧ Aside0 (railplanref19_some.l0 kq l0 l1 x5_1 (l1.length : Int) x9_1 = some r) ∧ Aside0 (kq ≤ k) ∧ Aside0 (Kd.V k28 28 w' w.heap.size (fun k_ => (P0_ k_ ∨ w.heap.size ≤ k_) ∧ some k_ ≠ (v5 : Value).ownBlock) (.slice A0 l0.length c0) l0) ∧ Aside0 (Kd.N k28 28 w' w.heap.size (fun k_ => (P0_ k_ ∨ w.heap.size ≤ k_)) v5 x5_1) ∧ Aside0 (Below w.heap.size w w'))
  case atStart => exact ⟨(([] : List (S28))), (0), (by first | rfl | (simp; done) | (simp [*]; done)), H', ⟨Nat.le_refl _⟩, ⟨by (with_reducible repeat (first | apply Kd.V_alloc | apply Kd.V_drewN | apply Kd.V_drew)); exact Kd.V_mono HO0.out (fun _ hk => ⟨hk, (by simp [Value.ownBlock])⟩)⟩, ⟨by first | exact Kd.S_nil _ _ _ _ _ | exact Kd.N_nil _ _ _ _ _ | exact Kd.V_nil _ _ _ _ _ | exact Kd.Q_nil _ _ _ _ _ | exact Kd.R_nil _ _ _ _ _⟩, ⟨by repeat (first | (with_reducible first | exact HB.out | apply below_alloc | apply pw_below_drewN | apply below_drew1) | exact HB.out)⟩⟩
  case round =>
    clear H'
    try clear c1
    try clear p2
    obtain ⟨x5_1, x9_1, rfl, HA, HK1, HO_0, HO_5, HB⟩ := hrel
    cases gk with
    | zero => exact absurd HA.out (by simp [railplanref19_some.l0])
    | succ k1 =>
      have H := HA.out
      clear HA
      simp only [railplanref19_some.l0] at H
      by_cases c3 : x9_1 < (l1.length : Int)
      · rw [if_pos c3] at H
        have c3b0 : decide (x9_1 < (l1.length : Int)) = true := decide_eq_true c3
        clear c3
        by_cases c4 : 0 ≤ x9_1
        · rw [if_pos c4] at H
          have c4b0 : decide (0 ≤ x9_1) = true := decide_eq_true c4
          clear c4
          by_cases c5 : x9_1 < (l1.length : Int)
          · rw [if_pos c5] at H
            have c5b0 : decide (x9_1 < (l1.length : Int)) = true := decide_eq_true c5
            clear c5
            by_cases c6 : 0 ≤ (rd l1 x9_1)
            · rw [if_pos c6] at H
              have c6b0 : decide (0 ≤ (rd l1 x9_1)) = true := decide_eq_true c6
              clear c6
              by_cases c7 : (rd l1 x9_1) < (l0.length : Int)
              · rw [if_pos c7] at H
                have c7b0 : decide ((rd l1 x9_1) < (l0.length : Int)) = true := decide_eq_true c7
                clear c7
                by_cases c8 : x5_1.length < 3518437208883
                · rw [if_pos c8] at H
                  have LMc8 := Aside0.mk c8
                  clear c8
                  obtain ⟨y227, hy227⟩ : ∃ y_ : List (S28), y_ = (x5_1 ++ [(⟨(rd_T28 l0 (rd l1 x9_1)).f0, (rd_T28 l0 (rd l1 x9_1)).f1, (rd_T28 l0 (rd l1 x9_1)).f2⟩ : S28)]) := ⟨_, rfl⟩
                  replace H : (railplanref19_some.l0 k1 l0 l1 y227 (l1.length : Int) (wrap64 (x9_1 + 1))) = some r := by first | (rw [hy227]; with_reducible exact H) | (have H2_ := (Option.bind_some _ _).symm.trans H; rw [hy227]; with_reducible exact H2_) | (have H2_ := (Option.bind_some _ _).symm.trans H; with_reducible exact H2_) | with_reducible exact H | (rw [hy227]; exact H) | exact H
                  have Ny227 := Aside0.mk hy227
                  clear hy227
                  have H' := Aside0.mk H
                  clear H
                  have p225 : 0 ≤ (x9_1 : Int) := of_decide_eq_true (by first | (with_reducible assumption) | assumption)
                  have q225 : x9_1 < (l1.length : Int) := of_decide_eq_true (by first | (with_reducible assumption) | assumption)
                  obtain ⟨ad225, e225, hx225_0⟩ := Kd.at_int HR1.out x9_1 p225 q225
                  cases e225
                  replace hx225_0 := (HB.out.cell (World.block_lt_of_cell? w _ hx225_0)).trans hx225_0
                  replace p225 := eq_true p225
                  replace q225 := eq_true q225
                  have p226 : 0 ≤ ((rd l1 x9_1) : Int) := of_decide_eq_true (by first | (with_reducible assumption) | assumption)
                  have q226 : (rd l1 x9_1) < (l0.length : Int) := of_decide_eq_true (by first | (with_reducible assumption) | assumption)
                  obtain ⟨ad226, A226_2, c226_2, e226, hx226_0, hx226_1, hx226_2, hl226_2, hi226_2⟩ := at_T28 (Kd.V_reads' HO_0.out).2.2 (rd l1 x9_1) p226 q226
                  cases e226
                  obtain ⟨ce226, hce226, hMe226, hcc226⟩ := Kd.V_get HO_0.out z28 (rd l1 x9_1) p226 (by first | exact q226 | exact of_decide_eq_true (by first | (with_reducible assumption) | assumption) | (have e_ := (Kd.V_reads' HO_0.out).1; omega))
                  obtain ⟨ua226_2, uc226_2, rfl, ul226_2, ge226_2⟩ := k28_openF hMe226
                  have hv226_2 := hcc226 2 _ rfl
                  rw [add_field _ _ 2 (by omega)] at hv226_2
                  replace hv226_2 := Option.some.inj (hv226_2.symm.trans hx226_2)
                  injection hv226_2 with hva_ hvn_ hvc_
                  rw [hva_] at ge226_2
                  rw [hvc_] at ul226_2
                  have HL226_2 := Aside0.mk (show Kd.V (Kd.int .i64) 3 _ w.heap.size _ _ ((rd_T28 l0 (rd l1 x9_1)).f2) from Kd.V_mk ul226_2 ge226_2)
                  clear hva_ hvn_ hvc_ ge226_2 ul226_2
                  clear hcc226 hce226
                  have HR226_2 := Aside0.mk hi226_2
                  have HC226_2 := Aside0.mk hl226_2
                  clear hi226_2 hl226_2
                  replace p226 := eq_true p226
                  replace q226 := eq_true q226
                  go_wp2_with (first | ((with_reducible refine gate_builtin (b := .append) (xs := #[.tmp 12, .tmp 20]) rfl ?_); at_builtin; refine Kd.N_append k28 (w0 := w) w.heap.size rfl (.tmp 12) (.tmp 20) 24 28 (.agg #[(.int .i64 0), (.int .i64 0), (.slice none 0 0)]) 40 rfl Try.underlying24 info28 rfl (by decide) (by omega) u5 x5_1 (⟨(rd_T28 l0 (rd l1 x9_1)).f0, (rd_T28 l0 (rd l1 x9_1)).f1, (rd_T28 l0 (rd l1 x9_1)).f2⟩ : S28) [.int .i64 ((rd_T28 l0 (rd l1 x9_1)).f0), .int .i64 ((rd_T28 l0 (rd l1 x9_1)).f1), .slice A226_2 ((rd_T28 l0 (rd l1 x9_1)).f2).length c226_2] (fun k_ => (P0_ k_ ∨ w.heap.size ≤ k_)) (fun k_ => ((fun k_ => (P0_ k_ ∨ w.heap.size ≤ k_))) k_ ∧ some k_ ≠ (u5 : Value).ownBlock) rfl rfl ?aP (fun _ hk => hk) ?aF ?aO ?aB ?aS ?aL ?_; (case aP => exact (k28_mkF _ _ (⟨(rd_T28 l0 (rd l1 x9_1)).f0, (rd_T28 l0 (rd l1 x9_1)).f1, (rd_T28 l0 (rd l1 x9_1)).f2⟩ : S28) (Kd.V_reads' (Kd.V_mono (ok' := (fun k_ => ((fun k_ => (P0_ k_ ∨ w.heap.size ≤ k_))) k_ ∧ some k_ ≠ (u5 : Value).ownBlock)) (HL226_2.out) (fun k_ hk => ⟨hk.1, hk.2⟩))).2.1 (Kd.V_F (Kd.V_mono (ok' := (fun k_ => ((fun k_ => (P0_ k_ ∨ w.heap.size ≤ k_))) k_ ∧ some k_ ≠ (u5 : Value).ownBlock)) (HL226_2.out) (fun k_ hk => ⟨hk.1, hk.2⟩))))); (case aB => exact (by repeat (first | (with_reducible first | exact HB.out | apply below_alloc | apply pw_below_drewN | apply below_drew1) | exact HB.out))); (case aF => exact (fun k_ hk => (.inr (Nat.le_trans (below_size (by repeat (first | (with_reducible first | exact HB.out | apply below_alloc | apply pw_below_drewN | apply below_drew1) | exact HB.out))) hk)))); (case aO => exact (by (with_reducible repeat (first | apply Kd.N_alloc | apply Kd.N_drewN | apply Kd.N_drew)); exact HO_5.out)); (case aS => exact (below_size (by repeat (first | (with_reducible first | exact HB.out | apply below_alloc | apply pw_below_drewN | apply below_drew1) | exact HB.out)))); (case aL => have := LMc8.out; omega); intro v228 w9 ho hb hg hat; rw [← Ny227.out] at ho; have n0_ := Aside0.mk (Kd.V_afterv (ok := (fun k_ => (P0_ k_ ∨ w.heap.size ≤ k_))) (by (with_reducible repeat (first | apply Kd.V_alloc | apply Kd.V_drewN | apply Kd.V_drew)); exact HO_0.out) hg hat); have n1_ := Aside0.mk (Kd.V_afterv (ok := (fun k_ => (P0_ k_ ∨ w.heap.size ≤ k_))) (by (with_reducible repeat (first | apply Kd.V_alloc | apply Kd.V_drewN | apply Kd.V_drew)); exact HL226_2.out) hg hat); have n2_ := Aside0.mk (hb); have n3_ := Aside0.mk (ho); clear HO_0; clear HL226_2; clear HB; clear HO_5; have HO_0 := n0_; have HL226_2 := n1_; have HB := n2_; have HO229 := n3_; clear n0_ n1_ n2_ n3_; clear ho hb hg hat))
                  go_roundg k1
                  case measure => have := HK1.out; omega
                  case rel => exact ⟨(y227), (wrap64 (x9_1 + 1)), (by first | rfl | (simp; done) | (simp [*]; done)), H', ⟨by have := HK1.out; omega⟩, ⟨by (with_reducible repeat (first | apply Kd.V_alloc | apply Kd.V_drewN | apply Kd.V_drew)); exact HO_0.out⟩, ⟨by (with_reducible repeat (first | apply Kd.N_alloc | apply Kd.N_drewN | apply Kd.N_drew)); exact HO229.out⟩, ⟨by repeat (first | (with_reducible first | exact HB.out | apply below_alloc | apply pw_below_drewN | apply below_drew1) | exact HB.out)⟩⟩
                · rw [if_neg c8] at H
                  exact absurd H (by simp)
              · rw [if_neg c7] at H
                exact absurd H (by simp)
            · rw [if_neg c6] at H
              exact absurd H (by simp)
          · rw [if_neg c5] at H
            exact absurd H (by simp)
        · rw [if_neg c4] at H
          exact absurd H (by simp)
      · rw [if_neg c3] at H
        have c3b0 : decide (x9_1 < (l1.length : Int)) = false := decide_eq_false c3
        clear c3
        obtain rfl := Option.some.inj H
        go_wp2
        go_ret
        exact ⟨_, by first | rfl | (simp [errW_none, errW_some] <;> rfl) | (simp [*, errW_none, errW_some] <;> rfl), by (with_reducible repeat (first | apply Kd.N_alloc | apply Kd.N_drewN | apply Kd.N_drew)); exact HO_5.out, by repeat (first | (with_reducible first | exact HB.out | apply below_alloc | apply pw_below_drewN | apply below_drew1) | exact HB.out)⟩

end Go.Proofs.Ytdgdjbehddeepaa.PAll
