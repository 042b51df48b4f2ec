/- What calls of the Go functions below do, each under the premises that its theorem states. Laid by a program of the claimant, which drives the kit's print; some texts are written by hand. -/
import Derived.Test.YtjbemmngnigaiaaPAllx0
import Derived.Test.YtjbemmngnigaiaaPAllxf11
import Derived.Test.YtjbemmngnigaiaaPAllxf18
import Derived.Test.YtjbemmngnigaiaaPAllxf9
namespace Go.Proofs.Ytjbemmngnigaiaa.PAll
open Go.RowKit Go.Proofs.YtjbemmngnigaiaaW.PrintWords Go.Proofs.YtjbemmngnigaiaaW.PrintLast Go.Proofs.YtjbemmngnigaiaaW.PrintMore
attribute [local go_sem] max2_int min2_int max_two min_two max_three min_three max_four min_four   -- for this text's walks alone
set_option linter.unusedVariables false
set_option linter.unusedSimpArgs false

/-! ### railplanlaw19_OccupancyExamples: function 3 -/
def railplanlaw19_OccupancyExamples.f : Option Bool := some true
def railplanlaw19_OccupancyExamples.Pure : Prop := ∃ k, occupancy_Conflicts.f k 10 [⟨0, 0, 0, 4, 0⟩, ⟨0, 1, 13, 3, 0⟩] = some [(0, 1)] ∧ occupancy_Free.f k 10 [⟨0, 0, 0, 4, 0⟩, ⟨0, 1, 13, 3, 0⟩] = some false ∧ occupancy_At.f 10 [⟨0, 0, 0, 4, 0⟩, ⟨0, 1, 13, 3, 0⟩] 0 23 = some [0, 1] ∧ railplankeep_Same_int.f k [0, 1] [0, 1] = some true ∧ occupancy_Free.f k 20 [⟨0, 0, 0, 4, 0⟩, ⟨0, 1, 13, 3, 0⟩] = some true
set_option maxHeartbeats 8000000 in
set_option maxRecDepth 100000 in
theorem railplanlaw19_OccupancyExamples.main (P : railplanlaw19_OccupancyExamples.Pure) (w : World) :
    Calls Try.prog 3 #[] w fun e w' => e = .returned (.bool true) ∧ Below w.heap.size w w' := by
  obtain ⟨k, hc, hf, ha, hs, hf2⟩ := P
  obtain ⟨u, hu⟩ : ∃ u : List S23, u = [⟨0, 0, 0, 4, 0⟩, ⟨0, 1, 13, 3, 0⟩] := ⟨_, rfl⟩
  rw [← hu] at hc hf ha hf2
  have hul : u.length = 2 := by rw [hu]; rfl
  have KC := Aside0.mk (fun (W : World) (A : Option Addr) (c : Nat) (hr : Kd.C k23 W A u.length u) (hc1 : u.length ≤ c) => occupancy_Conflicts.calls k 10 A c u _ W hr hc1 hc)
  have KF := Aside0.mk (fun (W : World) (A : Option Addr) (c : Nat) (hr : Kd.C k23 W A u.length u) (hc1 : u.length ≤ c) => occupancy_Free.calls k 10 A c u _ W hr hc1 hf)
  have KG := Aside0.mk (fun (W : World) (A : Option Addr) (c : Nat) (hr : Kd.C k23 W A u.length u) (hc1 : u.length ≤ c) => occupancy_Free.calls k 20 A c u _ W hr hc1 hf2)
  have KT := Aside0.mk (fun (W : World) (A : Option Addr) (c : Nat) (hr : Kd.C k23 W A u.length u) (hc1 : u.length ≤ c) => occupancy_At.calls 10 A c u 0 23 _ W hr hc1 ha)
  have KS := Aside0.mk hs
  have HU := Aside0.mk hu
  clear hc hf ha hs hf2 hu hul
  go_enter Try.func3, Try.ntmps3
  go_wp2_with (first
    | ((with_reducible refine gate_dst (N := 5) rfl ?_); refine Kd.R_lit k23 (w0 := w) w.heap.size 23 ?hg (N := 5) ?hd (xs := ([⟨0, 0, 0, 4, 0⟩, ⟨0, 1, 13, 3, 0⟩] : List S23)) (inner := [.int .i64 0, .int .i64 0, .int .i64 0, .int .i64 4, .int .i64 0, .int .i64 0, .int .i64 1, .int .i64 13, .int .i64 3, .int .i64 0]) (ok := fun _ => True) (okp := fun _ => True) ?hr ?hp (fun _ hk => hk) trivial (Below.refl _ _) (Nat.le_refl _) (by simp) ?_; (case hd => rfl); (case hg => rfl); (case hr => first | (go_simp; done) | (go_simp; rfl)); (case hp => exact (Reps.c5 (show Kd.M k23 _ _ _ (⟨0, 0, 0, 4, 0⟩ : S23) [.int .i64 0, .int .i64 0, .int .i64 0, .int .i64 4, .int .i64 0] from (k23_mkM _ _ _ (⟨0, 0, 0, 4, 0⟩ : S23))) (Reps.c5 (show Kd.M k23 _ _ _ (⟨0, 1, 13, 3, 0⟩ : S23) [.int .i64 0, .int .i64 1, .int .i64 13, .int .i64 3, .int .i64 0] from (k23_mkM _ _ _ (⟨0, 1, 13, 3, 0⟩ : S23))) (Reps.none _ _)))); intro v5 w5 hR5 hB5 hg_ hnew_; rw [← HU.out] at hR5; obtain ⟨A5, c5, e5, hl5, hC5⟩ := Kd.R_reads hR5; subst e5; have HCU := Aside0.mk hC5; have HL5 := Aside0.mk hl5; have HB := Aside0.mk hB5; clear hg_ hnew_ hR5 hB5 hl5 hC5)
    | (go_at_call 7; (with_reducible refine (KC.out _ _ _ HCU.out HL5.out).mono ?_); rintro e w6 ⟨v6, rfl, hR6, hB⟩; obtain ⟨A6, c6, e6, hl6, hC6⟩ := Kd.R_reads hR6; subst e6; have HC6 := Aside0.mk hC6; have HL6 := Aside0.mk hl6; have HBo := HB; have HCUo := HCU; clear HB HCU; have HB := Aside0.mk (below_step HBo.out hB); have HCU := Aside0.mk (Kd.C_below HCUo.out hB); clear HBo HCUo hB; clear hR6 hl6 hC6)
    | ((with_reducible refine gate_dst (N := 10) rfl ?_); go_loud (refine Kd.R_lit kP _ 28 ?hg (N := 10) ?hd (xs := ([((0 : Int), (1 : Int))] : List (Int × Int))) (inner := [.int .i64 0, .int .i64 1]) (ok := fun _ => True) (okp := fun _ => True) ?hr ?hp (fun _ hk => hk) trivial (Below.refl _ _) (Nat.le_refl _) (by simp) ?_; (case hd => rfl); (case hg => rfl); (case hr => first | (go_simp; done) | (go_simp; rfl)); (case hp => exact (Reps.c2 (kP_mk _ _ _ 0 1) (Reps.none _ _)))); intro v10 w10 hR10 hB10 hg_ hnew_; obtain ⟨A10, c10, e10, hl10, hC10⟩ := Kd.R_reads hR10; subst e10; have hBg := hB10; have HC10 := Aside0.mk hC10; have HL10 := Aside0.mk hl10; have HCUx := Aside0.mk (Kd.C_below HCU.out hBg); have HC6x := Aside0.mk (Kd.C_below HC6.out hBg); have HBx := Aside0.mk (below_step HB.out hB10); clear HCU HB HC6 hg_ hnew_ hR10 hB10 hl10 hC10 hBg)
    | (go_at_call 8; (refine (same2_true _ _ _ _ [((0 : Int), (1 : Int))] _ HC6x.out HL6.out HC10.out HL10.out (by simp)).mono ?_); rintro e w11 ⟨rfl, hB⟩; have HBo := HBx; have HCUo := HCUx; clear HBx HCUx; have HB := Aside0.mk (below_step HBo.out hB); have HCU := Aside0.mk (Kd.C_below HCUo.out hB); clear HBo HCUo hB; clear HC6x HC10)
    | (go_at_call 9; first
        | ((with_reducible refine (KF.out _ _ _ HCU.out HL5.out).mono ?_); rintro e w12 ⟨rfl, hB⟩; have HBo := HB; have HCUo := HCU; clear HB HCU; have HB := Aside0.mk (below_step HBo.out hB); have HCU := Aside0.mk (Kd.C_below HCUo.out hB); clear HBo HCUo hB)
        | ((with_reducible refine (KG.out _ _ _ HCU.out HL5.out).mono ?_); rintro e w16 ⟨rfl, hB⟩; have HBo := HB; have HCUo := HCU; clear HB HCU; have HB := Aside0.mk (below_step HBo.out hB); have HCU := Aside0.mk (Kd.C_below HCUo.out hB); clear HBo HCUo hB))
    | (go_at_call 11; (with_reducible refine (KT.out _ _ _ HCU.out HL5.out).mono ?_); rintro e w13 ⟨v13, rfl, hR13, hB⟩; obtain ⟨A13, c13, e13, hl13, hC13⟩ := Kd.R_reads hR13; subst e13; have HC13 := Aside0.mk hC13; have HL13 := Aside0.mk hl13; have HBo := HB; have HCUo := HCU; clear HB HCU; have HB := Aside0.mk (below_step HBo.out hB); have HCU := Aside0.mk (Kd.C_below HCUo.out hB); clear HBo HCUo hB; clear hR13 hl13 hC13)
    | ((with_reducible refine gate_dst (N := 20) rfl ?_); (try (refine gate_guard (by rfl) ?_; dsimp only)); refine Kd.R_lit (Kd.int .i64) _ 3 ?hg (N := 20) ?hd (xs := ([0, 1] : List Int)) (inner := [.int .i64 0, .int .i64 1]) (ok := fun _ => True) (okp := fun _ => True) ?hr ?hp (fun _ hk => hk) trivial (Below.refl _ _) (Nat.le_refl _) (by simp) ?_; (case hd => rfl); (case hg => rfl); (case hr => first | (go_simp; done) | (go_simp; rfl)); (case hp => exact (Reps.one (show Kd.M (Kd.int .i64) _ _ _ 0 [.int .i64 0] from rfl) (Reps.one (show Kd.M (Kd.int .i64) _ _ _ 1 [.int .i64 1] from rfl) (Reps.none _ _)))); intro v14 w14 hR14 hB hg_ hnew_; obtain ⟨A14, c14, e14, hl14, hC14⟩ := Kd.R_reads hR14; subst e14; have HC14 := Aside0.mk hC14; have HL14 := Aside0.mk hl14; have HC13x := Aside0.mk (Kd.C_below HC13.out hB); have HBo := HB; have HCUo := HCU; clear HB HCU HC13; have HB := Aside0.mk (below_step HBo.out hB); have HCU := Aside0.mk (Kd.C_below HCUo.out hB); clear HBo HCUo hB; clear hg_ hnew_ hR14 hl14 hC14)
    | (go_at_call 10; (refine (railplankeep_Same_int.calls k _ _ [0, 1] _ _ [0, 1] true _ HC13x.out HL13.out HC14.out HL14.out KS.out).mono ?_); rintro e w15 ⟨rfl, ⟨n15, rfl⟩⟩; have hB := pw_below_drewN (Below.refl w14.heap.size w14) n15; have HBo := HB; have HCUo := HCU; clear HB HCU; have HB := Aside0.mk (below_step HBo.out hB); have HCU := Aside0.mk (Kd.C_below HCUo.out hB); clear HBo HCUo hB; clear HC13x HC14))
  go_ret
  exact ⟨rfl, HB.out⟩

theorem railplanlaw19_OccupancyExamples.walk (P : railplanlaw19_OccupancyExamples.Pure)  (w : World)  :
    Calls Try.prog 3 #[] w fun e w' => e = .returned (.bool true) ∧ Below w.heap.size w w' := by
  exact railplanlaw19_OccupancyExamples.main P  w 

end Go.Proofs.Ytjbemmngnigaiaa.PAll
