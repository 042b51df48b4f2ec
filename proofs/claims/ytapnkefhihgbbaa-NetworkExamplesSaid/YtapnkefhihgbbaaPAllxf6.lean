/- What calls of the Go functions below do, each under the premises that its theorem states. Laid by a program of the claimant, which drives the kit's print; some texts are written by hand. -/
import Derived.Test.YtapnkefhihgbbaaPAllx0
import Derived.Test.YtapnkefhihgbbaaPAllxf15
import Derived.Test.YtapnkefhihgbbaaPAllxf17
import Derived.Test.YtapnkefhihgbbaaPAllxf18
import Derived.Test.YtapnkefhihgbbaaPAllxf19
import Derived.Test.YtapnkefhihgbbaaPAllxf20
import Derived.Test.YtapnkefhihgbbaaPAllxpre
namespace Go.Proofs.Ytapnkefhihgbbaa.PAll
open Go.RowKit Go.Proofs.YtapnkefhihgbbaaW.PrintWords Go.Proofs.YtapnkefhihgbbaaW.PrintLast Go.Proofs.YtapnkefhihgbbaaW.PrintMore
attribute [local go_sem] max2_int min2_int max_two min_two max_three min_three max_four min_four   -- for this text's walks alone
set_option linter.unusedVariables false
set_option linter.unusedSimpArgs false

/-! ### railplanlaw11_NetworkExamples: function 6 -/
theorem small_any (W : World) : Calls Try.prog 19 #[] W fun e w' => ∃ (A1 : Option Addr) (c1 : Nat) (A2 : Option Addr) (c2 : Nat), e = .returned (.agg #[.int .i64 10, .slice A1 2 c1, .slice A2 1 c2]) ∧ 2 ≤ c1 ∧ 1 ≤ c2 ∧ Kd.C k46 w' A1 2 [⟨1, 0, 0⟩, ⟨2, 0, 0⟩] ∧ Kd.C k31 w' A2 1 [⟨1, 0, 1, 3, 5, 2⟩] ∧ Below W.heap.size W w' := by
  refine (railplanlaw11_small.calls 10 [⟨1, 0, 0⟩, ⟨2, 0, 0⟩] [⟨1, 0, 1, 3, 5, 2⟩] W rfl).mono ?_
  rintro e w' ⟨v1, v2, rfl, h1, h2, hb⟩
  obtain ⟨A1, c1, rfl, l1, r1⟩ := Kd.R_reads h1
  obtain ⟨A2, c2, rfl, l2, r2⟩ := Kd.R_reads h2
  exact ⟨A1, c1, A2, c2, rfl, l1, l2, r1, r2, hb⟩
theorem C_two {W : World} {b t : Nat} (h : W.heap[b]? = some (.cells #[.int .i64 8, .int .i64 2] t (0, 0))) : Kd.C (Kd.int .i64) W (some ⟨b, 0, none⟩) 2 [8, 2] := C_ints h rfl (by decide)
def railplanlaw11_NetworkExamples.f : Option Bool := some true
def railplanlaw11_NetworkExamples.Pure : Prop := True
set_option maxHeartbeats 8000000 in
set_option maxRecDepth 100000 in
theorem railplanlaw11_NetworkExamples.walk (P : railplanlaw11_NetworkExamples.Pure) (w : World) :
    Calls Try.prog 6 #[] w fun e w' => e = .returned (.bool true) ∧ Below w.heap.size w w' := by
  have hue := Try.underlying46
  have KC := Aside0.mk (fun (W : World) A1 c1 A2 c2 A3 c3 h1 h2 h3 h4 h5 h6 => network_Cost.calls 5 10 A1 c1 [⟨1, 0, 0⟩, ⟨2, 0, 0⟩] A2 c2 [⟨1, 0, 1, 3, 5, 2⟩] A3 c3 [8, 2] 8 0 W h1 h2 h3 h4 h5 h6 (by kernel_rfl))
  have KD := Aside0.mk (fun (W : World) A1 c1 A2 c2 A3 c3 h1 h2 h3 h4 h5 h6 => network_Duration.calls 10 A1 c1 [⟨1, 0, 0⟩, ⟨2, 0, 0⟩] A2 c2 [⟨1, 0, 1, 3, 5, 2⟩] A3 c3 [8, 2] 0 4 W h1 h2 h3 h4 h5 h6 (by kernel_rfl))
  have KF := Aside0.mk (fun (W : World) A1 c1 A2 c2 A3 c3 h1 h2 h3 h4 h5 h6 => network_Feasible.calls 10 A1 c1 [⟨1, 0, 0⟩, ⟨2, 0, 0⟩] A2 c2 [⟨1, 0, 1, 3, 5, 2⟩] A3 c3 [8, 2] true W h1 h2 h3 h4 h5 h6 (by kernel_rfl))
  have KI := Aside0.mk (fun (W : World) A1 c1 A2 c2 h1 h2 h3 h4 => network_Index.calls 5 10 A1 c1 [⟨1, 0, 0⟩, ⟨2, 0, 0⟩] A2 c2 [⟨1, 0, 1, 3, 5, 2⟩] 2 0 0 1 W h1 h2 h3 h4 (by kernel_rfl))
  go_enter Try.func6, Try.ntmps6
  go_wp2_with fail
  refine (small_any _).mono ?_
  rintro e s0 ⟨A0, c0, B0, d0, rfl, a0, b0, p0, q0, hs0⟩
  go_wp2_with fail
  refine (KC.out _ _ _ _ _ _ _ (Kd.C_below p0 ?_) a0 (Kd.C_below q0 ?_) b0 (C_two (blk_new _ _)) (by decide)).mono ?_
  · first | exact Below.refl _ _ | exact (Below.refl _ _).alloc (Nat.le_refl _) _
  · first | exact Below.refl _ _ | exact (Below.refl _ _).alloc (Nat.le_refl _) _
  rintro e w0 ⟨rfl, hw0⟩
  go_wp2_with fail
  refine (small_any _).mono ?_
  rintro e s1 ⟨A1, c1, B1, d1, rfl, a1, b1, p1, q1, hs1⟩
  go_wp2_with fail
  refine (KD.out _ _ _ _ _ _ _ (Kd.C_below p1 ?_) a1 (Kd.C_below q1 ?_) b1 (C_two (blk_new _ _)) (by decide)).mono ?_
  · first | exact Below.refl _ _ | exact (Below.refl _ _).alloc (Nat.le_refl _) _
  · first | exact Below.refl _ _ | exact (Below.refl _ _).alloc (Nat.le_refl _) _
  rintro e w1 ⟨rfl, hw1⟩
  go_wp2_with fail
  refine (small_any _).mono ?_
  rintro e s2 ⟨A2, c2, B2, d2, rfl, a2, b2, p2, q2, hs2⟩
  go_wp2_with fail
  refine (KF.out _ _ _ _ _ _ _ (Kd.C_below p2 ?_) a2 (Kd.C_below q2 ?_) b2 (C_two (blk_new _ _)) (by decide)).mono ?_
  · first | exact Below.refl _ _ | exact (Below.refl _ _).alloc (Nat.le_refl _) _
  · first | exact Below.refl _ _ | exact (Below.refl _ _).alloc (Nat.le_refl _) _
  rintro e w2 ⟨rfl, hw2⟩
  go_wp2_with fail
  refine (small_any _).mono ?_
  rintro e s3 ⟨A3, c3, B3, d3, rfl, a3, b3, p3, q3, hs3⟩
  go_wp2_with fail
  refine (KI.out _ _ _ _ _ (Kd.C_below p3 ?_) a3 (Kd.C_below q3 ?_) b3).mono ?_
  · first | exact Below.refl _ _ | exact (Below.refl _ _).alloc (Nat.le_refl _) _
  · first | exact Below.refl _ _ | exact (Below.refl _ _).alloc (Nat.le_refl _) _
  rintro e w3 ⟨rfl, hw3⟩
  go_wp2
  go_ret
  refine ⟨rfl, ?_⟩
  have n0 : Below w.heap.size w w0 := hs0.trans (((Below.refl _ _).alloc (Nat.le_refl _) _ : Below s0.heap.size s0 _).mono hs0.size |>.trans (hw0.mono (by have := hs0.size; simp; omega)))
  have n1 : Below w.heap.size w w1 := (n0.trans (hs1.mono n0.size)).trans ((((Below.refl _ _).alloc (Nat.le_refl _) _ : Below s1.heap.size s1 _).trans (hw1.mono (by simp))).mono (Nat.le_trans n0.size hs1.size))
  have n2 : Below w.heap.size w w2 := (n1.trans (hs2.mono n1.size)).trans ((((Below.refl _ _).alloc (Nat.le_refl _) _ : Below s2.heap.size s2 _).trans (hw2.mono (by simp))).mono (Nat.le_trans n1.size hs2.size))
  exact (n2.trans (hs3.mono n2.size)).trans (hw3.mono (Nat.le_trans n2.size hs3.size))

end Go.Proofs.Ytapnkefhihgbbaa.PAll
