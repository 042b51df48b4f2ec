/- What calls of the Go functions below do, each under the premises that its theorem states. Laid by a program of the claimant, which drives the kit's print; some texts are written by hand. -/
import Derived.Test.YtdgdjbehddeepaaPAllx0
import Derived.Test.YtdgdjbehddeepaaPAllxf18
import Derived.Test.YtdgdjbehddeepaaPAllxp11
namespace Go.Proofs.Ytdgdjbehddeepaa.PAll
open Go.RowKit Go.Proofs.YtdgdjbehddeepaaW.PrintWords Go.Proofs.YtdgdjbehddeepaaW.PrintLast Go.Proofs.YtdgdjbehddeepaaW.PrintMore
attribute [local go_sem] max2_int min2_int max_two min_two max_three min_three max_four min_four   -- for this text's walks alone
set_option linter.unusedVariables false
set_option linter.unusedSimpArgs false

set_option maxHeartbeats 8000000 in
set_option maxRecDepth 100000 in
theorem vis_calls : ∀ (k g : Nat) (t : Int) (Av : Option Addr) (cv : Nat) (v : List S28) (bu us : Int) (ov : Bool) (vc : Value) (ch : List Int) (ok : Bool) (us' : Int) (ov' : Bool) (ch' : List Int) (w0 w : World), St64 w g t Av v.length cv bu us ov vc → w0.heap.size ≤ g → Below w0.heap.size w0 w → Kd.C k28 w0 Av v.length v → v.length ≤ cv → Kd.R (Kd.int .i64) 3 w w0.heap.size (fun k => k ≠ g) vc ch → vis_f k t v bu us ov ch = some (ok, us', ov', ch') →
    Calls Try.prog 41 #[.pointer (some ⟨g, 0, none⟩)] w fun e w' => e = .returned (.bool ok) ∧ ∃ vc', St64 w' g t Av v.length cv bu us' ov' vc' ∧ ChC w' g vc' ch' ∧ (ok = true → Kd.R (Kd.int .i64) 3 w' w0.heap.size (fun k => k ≠ g) vc' ch') ∧ Below w0.heap.size w0 w' ∧ KeepBut w w' g none := by
  intro k
  induction k using Nat.strongRecOn with
  | ind k ih =>
  intro g t Av cv v bu us ov vc ch ok us' ov' ch' w0 w hSt hg hB hv hcv hch h
  have IH := Aside0.mk ih
  have HW0 := Aside0.mk hg
  have HB := Aside0.mk hB
  have HV := Aside0.mk hv
  have HC1 := Aside0.mk hcv
  have HK := Aside0.mk (KeepBut.refl w g none)
  have HCH := Aside0.mk (ChC.of_R hch)
  have HO := Aside0.mk hch
  obtain ⟨A, c, rfl, hcl, hr⟩ := Kd.R_reads hch
  have HS := Aside0.mk hSt
  clear ih hg hB hv hcv hch hSt hcl hr
  cases k with
  | zero => simp [vis_f] at h
  | succ k =>
  simp only [vis_f] at h
  obtain ⟨hc0, hc1, hc2, hc3, hc4, hc5, hf3, hf4, hf5⟩ := HS.out.cells
  by_cases e1 : ch.length = v.length
  · rw [if_pos e1] at h
    simp only [Option.some.injEq, Prod.mk.injEq] at h
    obtain ⟨rfl, rfl, rfl, rfl⟩ := h
    have e1b : ((ch.length : Int) == (v.length : Int)) = true := by rw [e1]; exact beq_self_eq_true _
    have e1c : (ch.length == v.length) = true := by rw [e1]; exact beq_self_eq_true _
    clear e1
    go_enter Try.func41, Try.ntmps41
    go_wp2
    go_ret
    exact ⟨rfl, _, HS.out, HCH.out, fun _ => HO.out, HB.out, HK.out⟩
  · rw [if_neg e1] at h
    have e1b : ((ch.length : Int) == (v.length : Int)) = false := by rw [beq_eq_false_iff_ne]; omega
    have e1c : (ch.length == v.length) = false := by rw [beq_eq_false_iff_ne]; exact e1
    by_cases e2 : ch.length < v.length
    · rw [if_pos e2] at h
      have p1 : (0 : Int) ≤ (ch.length : Int) := Int.natCast_nonneg _
      have p2 : (ch.length : Int) < (v.length : Int) := Int.ofNat_lt.2 e2
      obtain ⟨ad, At, ct, e3, hx0, hx1, hx2, hlt, hit⟩ := at_T28 HV.out (ch.length : Int) p1 p2
      cases e3
      simp only [Int.toNat_natCast] at hx0 hx1 hx2
      have HX2 := Aside0.mk hx2
      obtain ⟨i, hi⟩ : ∃ i, i = ch.length := ⟨_, rfl⟩
      obtain ⟨tr, htr⟩ : ∃ tr, tr = (rd_T28 v i).f2 := ⟨_, rfl⟩
      have HTR := Aside0.mk htr
      rw [← hi] at h hx0 hx1 hx2 hlt hit p1 p2 e2 HX2 e1b e1c
      rw [← htr] at hx2 hlt hit HX2
      have q2 := (HB.out.cell (World.block_lt_of_cell? w0 _ hx2)).trans hx2
      have HT := Aside0.mk hit
      have HCT := Aside0.mk hlt
      have H' := Aside0.mk h
      have HI := Aside0.mk hi
      have HE2 := Aside0.mk e2
      have c10b0 : decide (0 ≤ (i : Int)) = true := decide_eq_true p1
      have c10b1 : decide (0 ≤ i) = true := decide_eq_true (by omega)
      have c11b0 : decide ((i : Int) < (v.length : Int)) = true := decide_eq_true p2
      have c11b1 : decide (i < v.length) = true := decide_eq_true e2
      clear hx0 hx1 hx2 hlt hit h htr e1
      rw [hi] at c10b0 c10b1 c11b0 c11b1 q2 p1 p2 e2 e1b e1c
      clear hi
      replace e2 := eq_true e2
      replace p1 := eq_true p1
      replace p2 := eq_true p2
      go_enter Try.func41, Try.ntmps41
      go_wp2
      have hgi := HI.out
      rw [← hgi]
      clear hgi
      go_loopg [26] k (fun kq v26 w' => ∃ (x us2 : Int) (ov2 : Bool) (vc2 : Value) (ch2 : List Int), v26 = .int .i64 x ∧ Aside0 (vis_l kq t v bu us2 ov2 i ch2 x = some (ok, us', ov', ch')) ∧ Aside0 (kq ≤ k) ∧ Aside0 (St64 w' g t (some ad) v.length cv bu us2 ov2 vc2) ∧ Aside0 (ChC w' g vc2 ch2) ∧ Aside0 (Below w0.heap.size w0 w') ∧ Aside0 (KeepBut w w' g none))
      case atStart => exact ⟨0, us, ov, _, ch, rfl, H', ⟨Nat.le_refl _⟩, HS, HCH, HB, HK⟩
      case round =>
        clear H' hc0 hc1 hc2 hc3 hc4 hc5 hf3 hf4 hf5 HS HO HB HK HCH
        clear q2 c10b0 c10b1 c11b0 c11b1 e1b e1c e2 p1 p2
        obtain ⟨x, us2, ov2, vc2, ch2, rfl, HA, HK1, HS, HCH, HB, HK⟩ := hrel
        cases gk with
        | zero => exact absurd HA.out (by simp [vis_l])
        | succ k1 =>
        have h := HA.out
        clear HA
        simp only [vis_l] at h
        rw [← HTR.out] at h
        obtain ⟨hc0, hc1, hc2, hc3, hc4, hc5, hf3, hf4, hf5⟩ := HS.out.cells
        by_cases c5 : x < (tr.length : Int)
        · rw [if_pos c5] at h
          have c5b0 : decide (x < (tr.length : Int)) = true := decide_eq_true c5
          by_cases c6 : bu < wrap64 (us2 + 1)
          · rw [if_pos c6] at h
            simp only [Option.some.injEq, Prod.mk.injEq] at h
            obtain ⟨rfl, rfl, rfl, rfl⟩ := h
            have c6b0 : decide (bu < wrap64 (us2 + 1)) = true := decide_eq_true c6
            clear c5 c6
            go_wp2
            generalize hV : World.setCell wr _ _ = V
            have HSV : Aside0 (St64 V g t (some ad) v.length cv bu (wrap64 (us2 + 1)) ov2 vc2) := ⟨by rw [← hV]; exact HS.out.us_ _⟩
            have HKq := KeepBut.set_ (KeepBut.refl wr g none) 3 (.int .i64 (wrap64 (us2 + 1)))
            rw [hV] at HKq
            have HKV : Aside0 (KeepBut w V g none) := ⟨HK.out.trans HKq (.inl rfl)⟩
            have HBV : Aside0 (Below w0.heap.size w0 V) := ⟨by rw [← hV]; exact below_set HB.out HW0.out⟩
            have HCV : Aside0 (ChC V g vc2 ch2) := ⟨HCH.out.keep HKq⟩
            clear HKq hV hc0 hc1 hc2 hc3 hc4 hc5 hf3 hf4 hf5 HS HK HB HCH
            obtain ⟨hc0, hc1, hc2, hc3, hc4, hc5, hf3, hf4, hf5⟩ := HSV.out.cells
            go_quiet (fail)
            go_wp2
            generalize hV2 : World.setCell _ _ _ = V2
            have HSV2 : St64 V2 g t (some ad) v.length cv bu (wrap64 (us2 + 1)) true vc2 := by rw [← hV2]; exact St64.ov_ (show St64 (V.drewN nq) g t (some ad) v.length cv bu (wrap64 (us2 + 1)) ov2 vc2 from HSV.out) true
            have HKV2 : KeepBut V V2 g none := by rw [← hV2]; exact KeepBut.set_ (KeepBut.of_below (pw_below_drewN (Below.refl _ _) nq) g none) 4 _
            have HBV2 : Below w0.heap.size w0 V2 := by rw [← hV2]; exact below_set (pw_below_drewN HBV.out nq) HW0.out
            go_ret
            first | exact ⟨rfl, vc2, HSV2, HCV.out.keep HKV2, HBV2, HKV.out.trans HKV2 (.inl rfl)⟩ | exact ⟨rfl, vc2, HSV2, HCV.out.keep HKV2, (fun h => by cases h), HBV2, HKV.out.trans HKV2 (.inl rfl)⟩
          · rw [if_neg c6] at h
            have c6b0 : decide (bu < wrap64 (us2 + 1)) = false := decide_eq_false c6
            clear c6
            by_cases c7 : 0 ≤ x
            · rw [if_pos c7] at h
              have c7b0 : decide (0 ≤ x) = true := decide_eq_true c7
              by_cases c8 : i ≤ ch2.length
              · rw [if_pos c8] at h
                by_cases c9 : i < 17592186044415
                · rw [if_pos c9] at h
                  obtain ⟨b, hpr, h⟩ := Option.bind_eq_some_iff.mp h
                  obtain ⟨ad2, e4, hy⟩ := Kd.at_int HT.out x c7 c5
                  cases e4
                  obtain ⟨A2, cc2, rfl, hle2, hz2, hbl2, hC2⟩ := HCH.out
                  have HCT2 := Aside0.mk (ChC.take HCH.out c8)
                  have hcutC : ∀ W : World, (Instr.slice 22 (.slice A2 ch2.length cc2) none (some (.int .i64 (i : Int))) (some (.int .i64 (i : Int)))).run Try.prog W = .ok (.slice A2 i i) W := by
                    intro W
                    have ha : (A2.map fun x => x.add 0) = A2 := by cases A2 <;> simp [Addr.add]
                    obtain ⟨i0, hi0, _, hsz0, _⟩ := info_parts info3
                    have hel : Try.prog.elem 22 = 3 := by simp [Program.elem, Try.underlying22]
                    have hu : Try.prog.underlying 22 = some (.slice (Try.prog.elem 22)) := by rw [hel]; exact Try.underlying22
                    rw [run_slice_hm W 22 A2 ch2.length cc2 hu .i64 .i64 i i (by omega) (by omega) (by omega), hel]
                    simp [sizeOf, typeInfo, hi0, sliced, Result.andThen, ha]
                  have hvl := HE2.out
                  obtain ⟨j2, hj2⟩ : ∃ j2 : Int, j2 = (i : Int) + 1 := ⟨_, rfl⟩
                  have hw1 : IntKind.i64.wrap ((i : Int) + 1) = j2 := by rw [i64_w, IntWalk.wrap64_in _ (by omega)]; exact hj2.symm
                  obtain ⟨i28, hi28, _, hsz28, _⟩ := info_parts info28
                  have hcutV0 := cut_to (P := Try.prog) 24 28 .i64 Try.underlying24 hi28 (some ad) v.length cv ((i + 1 : Nat) : Int) (by omega) (by omega) HC1.out
                  have hlV : (v.take (i + 1)).length = i + 1 := by rw [List.length_take]; omega
                  have hcutV : ∀ W : World, (Instr.slice 24 (.slice (some ad) v.length cv) none (some (.int .i64 j2)) none).run Try.prog W = .ok (.slice (some ad) (v.take (i + 1)).length cv) W := fun W => by rw [hlV, hj2]; exact hcutV0 W
                  have HCVT := Aside0.mk (Kd.C_take HV.out (m := i + 1) hvl)
                  have HLVT := Aside0.mk (show (v.take (i + 1)).length ≤ cv by rw [hlV]; have := HC1.out; omega)
                  obtain ⟨vt, hvt⟩ : ∃ vt, vt = v.take (i + 1) := ⟨_, rfl⟩
                  obtain ⟨cn, hcn⟩ : ∃ cn, cn = ch2.take i ++ [rd tr x] := ⟨_, rfl⟩
                  have HCN := Aside0.mk hcn
                  rw [← hvt] at hpr HCVT HLVT hcutV
                  rw [← hcn] at hpr h
                  have HPR := Aside0.mk hpr
                  have HH := Aside0.mk h
                  have HC9 := Aside0.mk c9
                  have hiw : (0 : Int) ≤ (i : Int) := Int.natCast_nonneg _
                  have hiv : (i : Int) < (v.length : Int) := Int.ofNat_lt.2 hvl
                  clear hj2 hle2 hz2 hbl2 hC2 HCH hcutV0 hlV hi28 hsz28 hvt hcn hpr h c9 c8
                  replace hiw := eq_true hiw
                  replace hiv := eq_true hiv
                  replace c5 := eq_true c5
                  replace c7 := eq_true c7
                  clear hvl
                  go_wp2
                  generalize hV : World.setCell wr _ _ = V
                  have HSV : Aside0 (St64 V g t (some ad) v.length cv bu (wrap64 (us2 + 1)) ov2 (.slice A2 ch2.length cc2)) := ⟨by rw [← hV]; exact HS.out.us_ _⟩
                  have HKq := KeepBut.set_ (KeepBut.refl wr g none) 3 (.int .i64 (wrap64 (us2 + 1)))
                  rw [hV] at HKq
                  have HKV : Aside0 (KeepBut w V g none) := ⟨HK.out.trans HKq (.inl rfl)⟩
                  have HBV : Aside0 (Below w0.heap.size w0 V) := ⟨by rw [← hV]; exact below_set HB.out HW0.out⟩
                  have HCV : Aside0 (ChC V g (.slice A2 i i) (ch2.take i)) := ⟨HCT2.out.keep HKq⟩
                  clear HKq hV hc0 hc1 hc2 hc3 hc4 hc5 hf3 hf4 hf5 HS HK HB HCT2
                  obtain ⟨hc0, hc1, hc2, hc3, hc4, hc5, hf3, hf4, hf5⟩ := HSV.out.cells
                  go_quiet (fail)
                  go_wp2
                  have HSD : Aside0 (St64 (V.drewN nq).drew g t (some ad) v.length cv bu (wrap64 (us2 + 1)) ov2 (.slice A2 ch2.length cc2)) := ⟨HSV.out⟩
                  have HKD : Aside0 (KeepBut w (V.drewN nq).drew g none) := ⟨HKV.out.trans (KeepBut.of_below (below_drew1 (pw_below_drewN (Below.refl _ _) nq)) g none) (.inl rfl)⟩
                  have HBD : Aside0 (Below w0.heap.size w0 (V.drewN nq).drew) := ⟨below_drew1 (pw_below_drewN HBV.out nq)⟩
                  have HCD : Aside0 (ChC (V.drewN nq).drew g (.slice A2 i i) (ch2.take i)) := ⟨HCV.out.below (below_drew1 (pw_below_drewN (Below.refl _ _) nq))⟩
                  clear hc0 hc1 hc2 hc3 hc4 hc5 hf3 hf4 hf5 HSV HKV HBV HCV
                  refine start_ (n := 24) (S := fun w' => w'.cell? ⟨g, 5, none⟩ = some (.slice A2 ch2.length cc2) ∧ w'.cell? ⟨g, 1, none⟩ = some (.slice (some ad) v.length cv) ∧ w'.cell? ⟨(ad.add (i * 3)).block, (ad.add (i * 3)).off + 2, none⟩ = some (.slice (some ad2) tr.length ct) ∧ w'.cell? (ad2.add x.toNat) = some (.int .i64 (rd tr x))) (ds := [23]) #[false, false, false, false, false, false, false, false, false, false, false, false, false, false, false, false, false, false, false, false, false, false, false, false] (by kernel_rfl) rfl rfl ⟨HSD.out.cells.2.2.2.2.2.1, HSD.out.cells.2.1, (HBD.out.cell (World.block_lt_of_cell? w0 _ HX2.out)).trans HX2.out, (HBD.out.cell (World.block_lt_of_cell? w0 _ hy)).trans hy⟩ (fun hHeld => ?_)
                  generalize (V.drewN nq).drew = V3 at HSD HKD HBD HCD hHeld ⊢
                  clear V
                  refine pure_ (i := 0) (N := (some 48)) (v := ?_) (a' := ?_) #[true, false, false, false, false, false, false, false, false, false, false, false, false, false, false, false, false, false, false, false, false, false, false, false] rfl rfl (by kernel_rfl) (fun _ _ _ h => h) (Or.inl ⟨by rfl, ?_⟩) ?_ ?_
                  rotate_left
                  · intro w'; go_simp; with_reducible rfl
                  rotate_left
                  · simp only [Act.put, List.setIfInBounds_toArray, List.set_cons_zero, List.set_cons_succ, i64_w, i32_w]; rfl
                  refine pure_ (i := 1) (N := (some 49)) (v := ?_) (a' := ?_) #[true, true, false, false, false, false, false, false, false, false, false, false, false, false, false, false, false, false, false, false, false, false, false, false] rfl rfl (by kernel_rfl) (fun _ _ _ h => h) (Or.inl ⟨by rfl, ?_⟩) ?_ ?_
                  rotate_left
                  · intro w'; go_simp; with_reducible rfl
                  rotate_left
                  · simp only [Act.put, List.setIfInBounds_toArray, List.set_cons_zero, List.set_cons_succ, i64_w, i32_w]; rfl
                  refine pure_ (i := 2) (N := (some 50)) (v := ?_) (a' := ?_) #[true, true, true, false, false, false, false, false, false, false, false, false, false, false, false, false, false, false, false, false, false, false, false, false] rfl rfl (by kernel_rfl) (fun _ _ _ h => h) (Or.inl ⟨by rfl, ?_⟩) ?_ ?_
                  rotate_left
                  · intro w'; go_simp; with_reducible rfl
                  rotate_left
                  · simp only [Act.put, List.setIfInBounds_toArray, List.set_cons_zero, List.set_cons_succ, i64_w, i32_w]; rfl
                  refine pure_ (i := 3) (N := (some 51)) (v := ?_) (a' := ?_) #[true, true, true, true, false, false, false, false, false, false, false, false, false, false, false, false, false, false, false, false, false, false, false, false] rfl rfl (by kernel_rfl) (fun _ _ _ h => h) (Or.inl ⟨by rfl, ?_⟩) ?_ ?_
                  rotate_left
                  · intro w'; go_simp; with_reducible rfl
                  rotate_left
                  · simp only [Act.put, List.setIfInBounds_toArray, List.set_cons_zero, List.set_cons_succ, i64_w, i32_w]; rfl
                  refine take_ (i := 4) (N := (some 52)) (v := ?_) (a' := ?_) #[true, true, true, true, true, false, false, false, false, false, false, false, false, false, false, false, false, false, false, false, false, false, false, false] rfl rfl (by kernel_rfl) (fun _ _ _ h => h) (Or.inl ⟨by rfl, ?_⟩) hHeld ?_ ?_
                  rotate_left
                  · rintro w' ⟨s0, s1, s2, s3⟩; go_simp; with_reducible rfl
                  rotate_left
                  · simp only [Act.put, List.setIfInBounds_toArray, List.set_cons_zero, List.set_cons_succ, i64_w, i32_w]; rfl
                  refine pure_ (i := 5) (N := (some 53)) (v := ?_) (a' := ?_) #[true, true, true, true, true, true, false, false, false, false, false, false, false, false, false, false, false, false, false, false, false, false, false, false] rfl rfl (by kernel_rfl) (fun _ _ _ h => h) (Or.inl ⟨by rfl, ?_⟩) ?_ ?_
                  rotate_left
                  · intro w'; go_simp; with_reducible rfl
                  rotate_left
                  · simp only [Act.put, List.setIfInBounds_toArray, List.set_cons_zero, List.set_cons_succ, i64_w, i32_w]; rfl
                  refine pure_ (i := 6) (N := (some 54)) (v := ?_) (a' := ?_) #[true, true, true, true, true, true, true, false, false, false, false, false, false, false, false, false, false, false, false, false, false, false, false, false] rfl rfl (by kernel_rfl) (fun _ _ _ h => h) (Or.inl ⟨by rfl, ?_⟩) ?_ ?_
                  rotate_left
                  · intro w'; go_simp; with_reducible rfl
                  rotate_left
                  · simp only [Act.put, List.setIfInBounds_toArray, List.set_cons_zero, List.set_cons_succ, i64_w, i32_w]; rfl
                  refine pure_ (i := 7) (N := (some 55)) (v := ?_) (a' := ?_) #[true, true, true, true, true, true, true, true, false, false, false, false, false, false, false, false, false, false, false, false, false, false, false, false] rfl rfl (by kernel_rfl) (fun _ _ _ h => h) (Or.inl ⟨by rfl, ?_⟩) ?_ ?_
                  rotate_left
                  · intro w'; go_simp; with_reducible rfl
                  rotate_left
                  · simp only [Act.put, List.setIfInBounds_toArray, List.set_cons_zero, List.set_cons_succ, i64_w, i32_w]; rfl
                  refine pure_ (i := 8) (N := (some 56)) (v := ?_) (a' := ?_) #[true, true, true, true, true, true, true, true, true, false, false, false, false, false, false, false, false, false, false, false, false, false, false, false] rfl rfl (by kernel_rfl) (fun _ _ _ h => h) (Or.inl ⟨by rfl, ?_⟩) ?_ ?_
                  rotate_left
                  · intro w'; go_simp; with_reducible rfl
                  rotate_left
                  · simp only [Act.put, List.setIfInBounds_toArray, List.set_cons_zero, List.set_cons_succ, i64_w, i32_w]; rfl
                  refine pure_ (i := 9) (N := (some 57)) (v := ?_) (a' := ?_) #[true, true, true, true, true, true, true, true, true, true, false, false, false, false, false, false, false, false, false, false, false, false, false, false] rfl rfl (by kernel_rfl) (fun _ _ _ h => h) (Or.inl ⟨by rfl, ?_⟩) ?_ ?_
                  rotate_left
                  · intro w'; go_simp; with_reducible rfl
                  rotate_left
                  · simp only [Act.put, List.setIfInBounds_toArray, List.set_cons_zero, List.set_cons_succ, i64_w, i32_w]; rfl
                  refine pure_ (i := 10) (N := (some 58)) (v := ?_) (a' := ?_) #[true, true, true, true, true, true, true, true, true, true, true, false, false, false, false, false, false, false, false, false, false, false, false, false] rfl rfl (by kernel_rfl) (fun _ _ _ h => h) (Or.inl ⟨by rfl, ?_⟩) ?_ ?_
                  rotate_left
                  · intro w'; go_simp; with_reducible rfl
                  rotate_left
                  · simp only [Act.put, List.setIfInBounds_toArray, List.set_cons_zero, List.set_cons_succ, i64_w, i32_w]; rfl
                  refine take_ (i := 11) (N := (some 59)) (v := ?_) (a' := ?_) #[true, true, true, true, true, true, true, true, true, true, true, true, false, false, false, false, false, false, false, false, false, false, false, false] rfl rfl (by kernel_rfl) (fun _ _ _ h => h) (Or.inl ⟨by rfl, ?_⟩) hHeld ?_ ?_
                  rotate_left
                  · rintro w' ⟨s0, s1, s2, s3⟩; go_simp; with_reducible rfl
                  rotate_left
                  · simp only [Act.put, List.setIfInBounds_toArray, List.set_cons_zero, List.set_cons_succ, i64_w, i32_w]; rfl
                  refine pure_ (i := 12) (N := (some 60)) (v := ?_) (a' := ?_) #[true, true, true, true, true, true, true, true, true, true, true, true, true, false, false, false, false, false, false, false, false, false, false, false] rfl rfl (by kernel_rfl) (fun _ _ _ h => h) (Or.inl ⟨by rfl, ?_⟩) ?_ ?_
                  rotate_left
                  · intro w'; go_simp; with_reducible rfl
                  rotate_left
                  · simp only [Act.put, List.setIfInBounds_toArray, List.set_cons_zero, List.set_cons_succ, i64_w, i32_w]; rfl
                  refine pure_ (i := 13) (N := (some 61)) (v := ?_) (a' := ?_) #[true, true, true, true, true, true, true, true, true, true, true, true, true, true, false, false, false, false, false, false, false, false, false, false] rfl rfl (by kernel_rfl) (fun _ _ _ h => h) (Or.inl ⟨by rfl, ?_⟩) ?_ ?_
                  rotate_left
                  · intro w'; go_simp; with_reducible rfl
                  rotate_left
                  · simp only [Act.put, List.setIfInBounds_toArray, List.set_cons_zero, List.set_cons_succ, i64_w, i32_w]; rfl
                  refine pure_ (i := 14) (N := (some 62)) (v := ?_) (a' := ?_) #[true, true, true, true, true, true, true, true, true, true, true, true, true, true, true, false, false, false, false, false, false, false, false, false] rfl rfl (by kernel_rfl) (fun _ _ _ h => h) (Or.inl ⟨by rfl, ?_⟩) ?_ ?_
                  rotate_left
                  · intro w'; go_simp; with_reducible rfl
                  rotate_left
                  · simp only [Act.put, List.setIfInBounds_toArray, List.set_cons_zero, List.set_cons_succ, i64_w, i32_w]; rfl
                  refine take_ (i := 15) (N := (some 63)) (v := ?_) (a' := ?_) #[true, true, true, true, true, true, true, true, true, true, true, true, true, true, true, true, false, false, false, false, false, false, false, false] rfl rfl (by kernel_rfl) (fun _ _ _ h => h) (Or.inl ⟨by rfl, ?_⟩) hHeld ?_ ?_
                  rotate_left
                  · rintro w' ⟨s0, s1, s2, s3⟩; go_simp; with_reducible rfl
                  rotate_left
                  · simp only [Act.put, List.setIfInBounds_toArray, List.set_cons_zero, List.set_cons_succ, i64_w, i32_w]; rfl
                  refine pure_ (i := 16) (N := (some 64)) (v := ?_) (a' := ?_) #[true, true, true, true, true, true, true, true, true, true, true, true, true, true, true, true, true, false, false, false, false, false, false, false] rfl rfl (by kernel_rfl) (fun _ _ _ h => h) (Or.inl ⟨by rfl, ?_⟩) ?_ ?_
                  rotate_left
                  · intro w'; go_simp; with_reducible rfl
                  rotate_left
                  · simp only [Act.put, List.setIfInBounds_toArray, List.set_cons_zero, List.set_cons_succ, i64_w, i32_w]; rfl
                  refine pure_ (i := 17) (N := (some 65)) (v := ?_) (a' := ?_) #[true, true, true, true, true, true, true, true, true, true, true, true, true, true, true, true, true, true, false, false, false, false, false, false] rfl rfl (by kernel_rfl) (fun _ _ _ h => h) (Or.inl ⟨by rfl, ?_⟩) ?_ ?_
                  rotate_left
                  · intro w'; go_simp; with_reducible rfl
                  rotate_left
                  · simp only [Act.put, List.setIfInBounds_toArray, List.set_cons_zero, List.set_cons_succ, i64_w, i32_w]; rfl
                  refine take_ (i := 18) (N := (some 66)) (v := ?_) (a' := ?_) #[true, true, true, true, true, true, true, true, true, true, true, true, true, true, true, true, true, true, true, false, false, false, false, false] rfl rfl (by kernel_rfl) (fun _ _ _ h => h) (Or.inl ⟨by rfl, ?_⟩) hHeld ?_ ?_
                  rotate_left
                  · rintro w' ⟨s0, s1, s2, s3⟩; go_simp; with_reducible rfl
                  rotate_left
                  · simp only [Act.put, List.setIfInBounds_toArray, List.set_cons_zero, List.set_cons_succ, i64_w, i32_w]; rfl
                  refine one_ (i := 19) (N := some 67) #[true, true, true, true, true, true, true, true, true, true, true, true, true, true, true, true, true, true, true, true, false, false, false, false] rfl rfl (by kernel_rfl) (by decide) (fun K hK => ?_)
                  refine value_ (w1 := ?_) (v := ?_) (by rfl) rfl ?_ ?_
                  rotate_left 2
                  · go_simp
                    constructor
                    · rfl
                    · rfl
                  have hb4 : Below V3.heap.size V3 (V3.alloc (.cells #[.int .i64 (rd tr x)] 3)) := below_alloc (Below.refl _ _) _
                  refine hK.out _ _ ⟨(hb4.cell (World.block_lt_of_cell? V3 _ hHeld.1)).trans hHeld.1, (hb4.cell (World.block_lt_of_cell? V3 _ hHeld.2.1)).trans hHeld.2.1, (hb4.cell (World.block_lt_of_cell? V3 _ hHeld.2.2.1)).trans hHeld.2.2.1, (hb4.cell (World.block_lt_of_cell? V3 _ hHeld.2.2.2)).trans hHeld.2.2.2⟩ (fun hHeld => ?_)
                  clear hK K hb4
                  refine norm_ (a' := ?_) ?_ ?_
                  rotate_left
                  · show Act.put _ (some 67) _ = _
                    simp only [Act.put, List.setIfInBounds_toArray, List.set_cons_zero, List.set_cons_succ, i64_w, i32_w]
                    rfl
                  have HLT : (ch2.take i).length = i := by
                    obtain ⟨_, _, e, _⟩ := HCD.out
                    injection e with _ e _
                    exact e.symm
                  have happ := app_full (P := Try.prog) 22 22 3 8 Try.underlying22 info3 V3 g A2 (ch2.take i) (rd tr x) (by rw [HLT]; exact HCD.out) (by rw [HLT]; have := HC9.out; omega) (by decide)
                  rw [HLT, ← HCN.out] at happ
                  obtain ⟨v5, w5, hrun, hR5, hg5⟩ := happ
                  obtain ⟨A5, cc5, e5⟩ := Kd.R_slice (hR5 w0.heap.size (below_size HBD.out) (blk_lt (show V3.heap[g]? = some _ from HSD.out)))
                  subst e5
                  have hgl : g < V3.heap.size := blk_lt (show V3.heap[g]? = some _ from HSD.out)
                  have HS5 := Aside0.mk (HSD.out.grown hg5)
                  have HR5 := Aside0.mk (hR5 w0.heap.size (below_size HBD.out) hgl)
                  have HB5 := Aside0.mk (show Below w0.heap.size w0 w5 from pw_below_grown HBD.out none (below_size HBD.out) hg5 (fun k hk => by cases hk))
                  have HK5 := Aside0.mk (show KeepBut w w5 g none from HKD.out.trans (KeepBut.of_grown hg5 g) (.inl rfl))
                  refine one_ (i := 20) (N := some 68) #[true, true, true, true, true, true, true, true, true, true, true, true, true, true, true, true, true, true, true, true, true, false, false, false] rfl rfl (by kernel_rfl) (by decide) (fun K hK => ?_)
                  refine value_ (w1 := w5) (v := .slice A5 cn.length cc5) (by rfl) rfl ?_ ?_
                  · simp [execOp, resolve, invoke, builtin, hrun, Act.eval, Result.andThen]
                  clear hrun hR5 hgl HLT
                  refine hK.out _ _ ⟨HS5.out.cells.2.2.2.2.2.1, HS5.out.cells.2.1, (HB5.out.cell (World.block_lt_of_cell? w0 _ HX2.out)).trans HX2.out, (HB5.out.cell (World.block_lt_of_cell? w0 _ hy)).trans hy⟩ (fun hHeld => ?_)
                  clear hK K hg5 HSD HKD HBD HCD
                  refine norm_ (a' := ?_) ?_ ?_
                  rotate_left
                  · show Act.put _ (some 68) _ = _
                    simp only [Act.put, List.setIfInBounds_toArray, List.set_cons_zero, List.set_cons_succ, i64_w, i32_w]
                    rfl
                  refine pure_ (i := 21) (N := (some 69)) (v := ?_) (a' := ?_) #[true, true, true, true, true, true, true, true, true, true, true, true, true, true, true, true, true, true, true, true, true, true, false, false] rfl rfl (by kernel_rfl) (fun _ _ _ h => h) (Or.inl ⟨by rfl, ?_⟩) ?_ ?_
                  rotate_left
                  · intro w'; go_simp; with_reducible rfl
                  rotate_left
                  · simp only [Act.put, List.setIfInBounds_toArray, List.set_cons_zero, List.set_cons_succ, i64_w, i32_w]; rfl
                  refine pure_ (i := 22) (N := (some 70)) (v := ?_) (a' := ?_) #[true, true, true, true, true, true, true, true, true, true, true, true, true, true, true, true, true, true, true, true, true, true, true, false] rfl rfl (by kernel_rfl) (fun _ _ _ h => h) (Or.inl ⟨by rfl, ?_⟩) ?_ ?_
                  rotate_left
                  · intro w'; go_simp; with_reducible rfl
                  rotate_left
                  · simp only [Act.put, List.setIfInBounds_toArray, List.set_cons_zero, List.set_cons_succ, i64_w, i32_w]; rfl
                  refine last_ (i := 23) (N := none) #[true, true, true, true, true, true, true, true, true, true, true, true, true, true, true, true, true, true, true, true, true, true, true, true] rfl rfl (by kernel_rfl) (by decide) (fun K hK => ?_)
                  obtain ⟨_, _, _, _, _, hc5, _, _, hf5⟩ := HS5.out.cells
                  refine skip_ (w1 := ?_) (by rfl) rfl ?_ ?_
                  rotate_left
                  · go_simp
                    rfl
                  refine hK.out _ _ ?_
                  clear hK K hc5 hf5
                  refine done_ (by kernel_rfl) ?_
                  generalize hV6 : World.setCell w5 _ _ = V6
                  have HS6 : Aside0 (St64 V6 g t (some ad) v.length cv bu (wrap64 (us2 + 1)) ov2 (.slice A5 cn.length cc5)) := ⟨by rw [← hV6]; exact HS5.out.ch_ _⟩
                  have HK6 : Aside0 (KeepBut w V6 g none) := ⟨by rw [← hV6]; exact HK5.out.set_ _ _⟩
                  have HB6 : Aside0 (Below w0.heap.size w0 V6) := ⟨by rw [← hV6]; exact below_set HB5.out HW0.out⟩
                  have HR6 : Aside0 (Kd.R (Kd.int .i64) 3 V6 w0.heap.size (fun k => k ≠ g) (.slice A5 cn.length cc5) cn) := ⟨by rw [← hV6]; exact Kd.R_far HR5.out (fun k hk => hk) _⟩
                  clear hV6 HS5 HK5 HB5 HR5 hcutC
                  go_wp2
                  have HSD : Aside0 (St64 V6.drew g t (some ad) v.length cv bu (wrap64 (us2 + 1)) ov2 (.slice A5 cn.length cc5)) := ⟨HS6.out⟩
                  have HKD : Aside0 (KeepBut w V6.drew g none) := ⟨HK6.out.trans (KeepBut.of_below (below_drew1 (Below.refl _ _)) g none) (.inl rfl)⟩
                  have HBD : Aside0 (Below w0.heap.size w0 V6.drew) := ⟨below_drew1 HB6.out⟩
                  have HRD : Aside0 (Kd.R (Kd.int .i64) 3 V6.drew w0.heap.size (fun k => k ≠ g) (.slice A5 cn.length cc5) cn) := ⟨Kd.R_drew HR6.out⟩
                  clear HS6 HK6 HB6 HR6
                  refine start_ (n := 20) (S := fun w' => w'.cell? ⟨g, 0, none⟩ = some (.int .i64 t) ∧ w'.cell? ⟨g, 1, none⟩ = some (.slice (some ad) v.length cv) ∧ w'.cell? ⟨g, 5, none⟩ = some (.slice A5 cn.length cc5)) (ds := [18]) #[false, false, false, false, false, false, false, false, false, false, false, false, false, false, false, false, false, false, false, false] (by kernel_rfl) rfl rfl ⟨HSD.out.cells.1, HSD.out.cells.2.1, HSD.out.cells.2.2.2.2.2.1⟩ (fun hHeld => ?_)
                  generalize V6.drew = V3 at HSD HKD HBD HRD hHeld ⊢
                  clear V6
                  refine pure_ (i := 0) (N := (some 71)) (v := ?_) (a' := ?_) #[true, false, false, false, false, false, false, false, false, false, false, false, false, false, false, false, false, false, false, false] rfl rfl (by kernel_rfl) (fun _ _ _ h => h) (Or.inl ⟨by rfl, ?_⟩) ?_ ?_
                  rotate_left
                  · intro w'; go_simp; with_reducible rfl
                  rotate_left
                  · simp only [Act.put, List.setIfInBounds_toArray, List.set_cons_zero, List.set_cons_succ, i64_w, i32_w]; rfl
                  refine pure_ (i := 1) (N := (some 72)) (v := ?_) (a' := ?_) #[true, true, false, false, false, false, false, false, false, false, false, false, false, false, false, false, false, false, false, false] rfl rfl (by kernel_rfl) (fun _ _ _ h => h) (Or.inl ⟨by rfl, ?_⟩) ?_ ?_
                  rotate_left
                  · intro w'; go_simp; with_reducible rfl
                  rotate_left
                  · simp only [Act.put, List.setIfInBounds_toArray, List.set_cons_zero, List.set_cons_succ, i64_w, i32_w]; rfl
                  refine pure_ (i := 2) (N := (some 73)) (v := ?_) (a' := ?_) #[true, true, true, false, false, false, false, false, false, false, false, false, false, false, false, false, false, false, false, false] rfl rfl (by kernel_rfl) (fun _ _ _ h => h) (Or.inl ⟨by rfl, ?_⟩) ?_ ?_
                  rotate_left
                  · intro w'; go_simp; with_reducible rfl
                  rotate_left
                  · simp only [Act.put, List.setIfInBounds_toArray, List.set_cons_zero, List.set_cons_succ, i64_w, i32_w]; rfl
                  refine take_ (i := 3) (N := (some 74)) (v := ?_) (a' := ?_) #[true, true, true, true, false, false, false, false, false, false, false, false, false, false, false, false, false, false, false, false] rfl rfl (by kernel_rfl) (fun _ _ _ h => h) (Or.inl ⟨by rfl, ?_⟩) hHeld ?_ ?_
                  rotate_left
                  · rintro w' ⟨s0, s1, s2⟩; go_simp; with_reducible rfl
                  rotate_left
                  · simp only [Act.put, List.setIfInBounds_toArray, List.set_cons_zero, List.set_cons_succ, i64_w, i32_w]; rfl
                  refine pure_ (i := 4) (N := (some 75)) (v := ?_) (a' := ?_) #[true, true, true, true, true, false, false, false, false, false, false, false, false, false, false, false, false, false, false, false] rfl rfl (by kernel_rfl) (fun _ _ _ h => h) (Or.inl ⟨by rfl, ?_⟩) ?_ ?_
                  rotate_left
                  · intro w'; go_simp; with_reducible rfl
                  rotate_left
                  · simp only [Act.put, List.setIfInBounds_toArray, List.set_cons_zero, List.set_cons_succ, i64_w, i32_w]; rfl
                  refine pure_ (i := 5) (N := (some 76)) (v := ?_) (a' := ?_) #[true, true, true, true, true, true, false, false, false, false, false, false, false, false, false, false, false, false, false, false] rfl rfl (by kernel_rfl) (fun _ _ _ h => h) (Or.inl ⟨by rfl, ?_⟩) ?_ ?_
                  rotate_left
                  · intro w'; go_simp; with_reducible rfl
                  rotate_left
                  · simp only [Act.put, List.setIfInBounds_toArray, List.set_cons_zero, List.set_cons_succ, i64_w, i32_w]; rfl
                  refine pure_ (i := 6) (N := (some 77)) (v := ?_) (a' := ?_) #[true, true, true, true, true, true, true, false, false, false, false, false, false, false, false, false, false, false, false, false] rfl rfl (by kernel_rfl) (fun _ _ _ h => h) (Or.inl ⟨by rfl, ?_⟩) ?_ ?_
                  rotate_left
                  · intro w'; go_simp; with_reducible rfl
                  rotate_left
                  · simp only [Act.put, List.setIfInBounds_toArray, List.set_cons_zero, List.set_cons_succ, i64_w, i32_w]; rfl
                  refine take_ (i := 7) (N := (some 78)) (v := ?_) (a' := ?_) #[true, true, true, true, true, true, true, true, false, false, false, false, false, false, false, false, false, false, false, false] rfl rfl (by kernel_rfl) (fun _ _ _ h => h) (Or.inl ⟨by rfl, ?_⟩) hHeld ?_ ?_
                  rotate_left
                  · rintro w' ⟨s0, s1, s2⟩; go_simp; with_reducible rfl
                  rotate_left
                  · simp only [Act.put, List.setIfInBounds_toArray, List.set_cons_zero, List.set_cons_succ, i64_w, i32_w]; rfl
                  refine pure_ (i := 8) (N := (some 79)) (v := ?_) (a' := ?_) #[true, true, true, true, true, true, true, true, true, false, false, false, false, false, false, false, false, false, false, false] rfl rfl (by kernel_rfl) (fun _ _ _ h => h) (Or.inl ⟨by rfl, ?_⟩) ?_ ?_
                  rotate_left
                  · intro w'; go_simp; with_reducible rfl
                  rotate_left
                  · simp only [Act.put, List.setIfInBounds_toArray, List.set_cons_zero, List.set_cons_succ, i64_w, i32_w]; rfl
                  refine pure_ (i := 9) (N := (some 80)) (v := ?_) (a' := ?_) #[true, true, true, true, true, true, true, true, true, true, false, false, false, false, false, false, false, false, false, false] rfl rfl (by kernel_rfl) (fun _ _ _ h => h) (Or.inl ⟨by rfl, ?_⟩) ?_ ?_
                  rotate_left
                  · intro w'; go_simp; with_reducible rfl
                  rotate_left
                  · simp only [Act.put, List.setIfInBounds_toArray, List.set_cons_zero, List.set_cons_succ, i64_w, i32_w]; rfl
                  refine pure_ (i := 10) (N := (some 81)) (v := ?_) (a' := ?_) #[true, true, true, true, true, true, true, true, true, true, true, false, false, false, false, false, false, false, false, false] rfl rfl (by kernel_rfl) (fun _ _ _ h => h) (Or.inl ⟨by rfl, ?_⟩) ?_ ?_
                  rotate_left
                  · intro w'; go_simp; with_reducible rfl
                  rotate_left
                  · simp only [Act.put, List.setIfInBounds_toArray, List.set_cons_zero, List.set_cons_succ, i64_w, i32_w]; rfl
                  refine pure_ (i := 11) (N := (some 82)) (v := ?_) (a' := ?_) #[true, true, true, true, true, true, true, true, true, true, true, true, false, false, false, false, false, false, false, false] rfl rfl (by kernel_rfl) (fun _ _ _ h => h) (Or.inl ⟨by rfl, ?_⟩) ?_ ?_
                  rotate_left
                  · intro w'; go_simp; with_reducible rfl
                  rotate_left
                  · simp only [Act.put, List.setIfInBounds_toArray, List.set_cons_zero, List.set_cons_succ, i64_w, i32_w]; rfl
                  refine pure_ (i := 12) (N := (some 83)) (v := ?_) (a' := ?_) #[true, true, true, true, true, true, true, true, true, true, true, true, true, false, false, false, false, false, false, false] rfl rfl (by kernel_rfl) (fun _ _ _ h => h) (Or.inl ⟨by rfl, ?_⟩) ?_ ?_
                  rotate_left
                  · intro w'; go_simp; with_reducible rfl
                  rotate_left
                  · simp only [Act.put, List.setIfInBounds_toArray, List.set_cons_zero, List.set_cons_succ, i64_w, i32_w]; rfl
                  refine pure_ (i := 13) (N := (some 84)) (v := ?_) (a' := ?_) #[true, true, true, true, true, true, true, true, true, true, true, true, true, true, false, false, false, false, false, false] rfl rfl (by kernel_rfl) (fun _ _ _ h => h) (Or.inl ⟨by rfl, ?_⟩) ?_ ?_
                  rotate_left
                  · intro w'; go_simp; with_reducible rfl
                  rotate_left
                  · simp only [Act.put, List.setIfInBounds_toArray, List.set_cons_zero, List.set_cons_succ, i64_w, i32_w]; rfl
                  refine take_ (i := 14) (N := (some 85)) (v := ?_) (a' := ?_) #[true, true, true, true, true, true, true, true, true, true, true, true, true, true, true, false, false, false, false, false] rfl rfl (by kernel_rfl) (fun _ _ _ h => h) (Or.inl ⟨by rfl, ?_⟩) hHeld ?_ ?_
                  rotate_left
                  · rintro w' ⟨s0, s1, s2⟩; go_simp; with_reducible rfl
                  rotate_left
                  · simp only [Act.put, List.setIfInBounds_toArray, List.set_cons_zero, List.set_cons_succ, i64_w, i32_w]; rfl
                  refine one_ (i := 15) (N := some 86) #[true, true, true, true, true, true, true, true, true, true, true, true, true, true, true, true, false, false, false, false] rfl rfl (by kernel_rfl) (by decide) (fun K hK => ?_)
                  refine goes_ Try.func18 (by kernel_rfl) rfl #[.int .i64 t, .slice (some ad) vt.length cv, .slice A5 cn.length cc5] (by rfl) rfl rfl (by (try simp only [List.map_toArray, List.map_cons, List.map_nil]); first | done | rfl) ?_
                  obtain ⟨A5', cc5', e5, hl5, hr5⟩ := Kd.R_reads HRD.out
                  injection e5 with e5 _ e6
                  subst e5
                  subst e6
                  refine (railplanref19_Proper.calls k1 t (some ad) cv vt A5 cc5 cn b _ (Kd.C_below HCVT.out HBD.out) HLVT.out hr5 hl5 HPR.out).mono ?_
                  rintro e w7 ⟨rfl, hb7⟩
                  refine ⟨_, rfl, ?_⟩
                  clear hl5 hr5
                  have HS7 := Aside0.mk (HSD.out.below hb7)
                  have HK7 := Aside0.mk (show KeepBut w w7 g none from HKD.out.trans (KeepBut.of_below hb7 g none) (.inl rfl))
                  have HB7 := Aside0.mk (below_step HBD.out hb7)
                  have HR7 := Aside0.mk (Kd.R_below HRD.out hb7)
                  clear HSD HKD HBD HRD hb7
                  refine hK.out _ _ ⟨HS7.out.cells.1, HS7.out.cells.2.1, HS7.out.cells.2.2.2.2.2.1⟩ (fun hHeld => ?_)
                  clear hK K
                  refine norm_ (a' := ?_) ?_ ?_
                  rotate_left
                  · show Act.put _ (some 86) _ = _
                    simp only [Act.put, List.setIfInBounds_toArray, List.set_cons_zero, List.set_cons_succ, i64_w, i32_w]
                    rfl
                  cases b with
                  | true =>
                    have h := HH.out
                    rw [if_pos rfl] at h
                    obtain ⟨⟨ok1, us3, ov3, ch3⟩, hvis, h⟩ := Option.bind_eq_some_iff.mp h
                    have HH2 := Aside0.mk h
                    have K41 := Aside0.mk (IH.out k1 (by have := HK1.out; omega) g t (some ad) cv v bu (wrap64 (us2 + 1)) ov2 (.slice A5 cn.length cc5) cn ok1 us3 ov3 ch3 w0 w7 HS7.out HW0.out HB7.out HV.out HC1.out HR7.out hvis)
                    clear h HH hvis
                    refine pure_ (i := 16) (N := (some 87)) (v := ?_) (a' := ?_) #[true, true, true, true, true, true, true, true, true, true, true, true, true, true, true, true, true, false, false, false] rfl rfl (by kernel_rfl) (fun _ _ _ h => h) (Or.inl ⟨by rfl, ?_⟩) ?_ ?_
                    rotate_left
                    · intro w'; go_simp; with_reducible rfl
                    rotate_left
                    · simp only [Act.put, List.setIfInBounds_toArray, List.set_cons_zero, List.set_cons_succ, i64_w, i32_w]; rfl
                    refine pure_ (i := 17) (N := (some 88)) (v := ?_) (a' := ?_) #[true, true, true, true, true, true, true, true, true, true, true, true, true, true, true, true, true, true, false, false] rfl rfl (by kernel_rfl) (fun _ _ _ h => h) (Or.inl ⟨by rfl, ?_⟩) ?_ ?_
                    rotate_left
                    · intro w'; go_simp; with_reducible rfl
                    rotate_left
                    · simp only [Act.put, List.setIfInBounds_toArray, List.set_cons_zero, List.set_cons_succ, i64_w, i32_w]; rfl
                    refine last_ (i := 18) (N := some 89) #[true, true, true, true, true, true, true, true, true, true, true, true, true, true, true, true, true, true, true, false] rfl rfl (by kernel_rfl) (by decide) (fun K hK => ?_)
                    refine goes_ Try.func41 (by kernel_rfl) rfl #[.pointer (some ⟨g, 0, none⟩)] (by rfl) rfl rfl (by (try simp only [List.map_toArray, List.map_cons, List.map_nil]); first | done | rfl) ?_
                    refine K41.out.mono ?_
                    rintro e w8 ⟨rfl, vc8, hS8, hC8, hR8, hB8, hK8⟩
                    refine ⟨_, rfl, ?_⟩
                    have HS8 := Aside0.mk hS8
                    have HC8 := Aside0.mk hC8
                    have HR8 := Aside0.mk hR8
                    have HB8 := Aside0.mk hB8
                    have HK8 := Aside0.mk (HK7.out.trans hK8 (.inl rfl))
                    clear hS8 hC8 hR8 hB8 hK8 HS7 HK7 HB7 HR7 K41
                    refine hK.out _ _ ?_
                    clear hK K
                    refine norm_ (a' := ?_) ?_ ?_
                    rotate_left
                    · show Act.put _ (some 89) _ = _
                      simp only [Act.put, List.setIfInBounds_toArray, List.set_cons_zero, List.set_cons_succ, i64_w, i32_w]
                      rfl
                    refine pure_ (i := 19) (N := (some 90)) (v := ?_) (a' := ?_) #[true, true, true, true, true, true, true, true, true, true, true, true, true, true, true, true, true, true, true, true] rfl rfl (by kernel_rfl) (fun _ _ _ h => h) (Or.inl ⟨by rfl, ?_⟩) ?_ ?_
                    rotate_left
                    · intro w'; go_simp; with_reducible rfl
                    rotate_left
                    · simp only [Act.put, List.setIfInBounds_toArray, List.set_cons_zero, List.set_cons_succ, i64_w, i32_w]; rfl
                    refine done_ (by kernel_rfl) ?_
                    obtain ⟨hc0, hc1, hc2, hc3, hc4, hc5, hf3, hf4, hf5⟩ := HS8.out.cells
                    cases ok1 with
                    | true =>
                      have h := HH2.out
                      rw [if_pos rfl] at h
                      simp only [Option.some.injEq, Prod.mk.injEq] at h
                      obtain ⟨rfl, rfl, rfl, rfl⟩ := h
                      go_wp2
                      go_ret
                      exact ⟨rfl, vc8, HS8.out, HC8.out, HR8.out trivial, HB8.out, HK8.out⟩
                    | false =>
                      cases ov3 with
                      | true =>
                        have h := HH2.out
                        rw [if_neg (by simp), if_pos rfl] at h
                        simp only [Option.some.injEq, Prod.mk.injEq] at h
                        obtain ⟨rfl, rfl, rfl, rfl⟩ := h
                        go_wp2
                        go_ret
                        exact ⟨rfl, vc8, HS8.out, HC8.out, HB8.out, HK8.out⟩
                      | false =>
                        have h := HH2.out
                        rw [if_neg (by simp), if_neg (by simp)] at h
                        have H' := Aside0.mk h
                        clear h HH2
                        go_wp2
                        go_roundg k1
                        case measure => have := HK1.out; omega
                        case rel => exact ⟨wrap64 (x + 1), us3, false, vc8, ch3, (by first | rfl | (simp [i64_w]; done)), H', ⟨by have := HK1.out; omega⟩, HS8, HC8, HB8, HK8⟩
                  | false =>
                    have h := HH.out
                    rw [if_neg (by simp)] at h
                    have HH2 := Aside0.mk h
                    clear h HH
                    refine pure_ (i := 16) (N := (some 87)) (v := ?_) (a' := ?_) #[true, true, true, true, true, true, true, true, true, true, true, true, true, true, true, true, true, false, false, false] rfl rfl (by kernel_rfl) (fun _ _ _ h => h) (Or.inl ⟨by rfl, ?_⟩) ?_ ?_
                    rotate_left
                    · intro w'; go_simp; with_reducible rfl
                    rotate_left
                    · simp only [Act.put, List.setIfInBounds_toArray, List.set_cons_zero, List.set_cons_succ, i64_w, i32_w]; rfl
                    refine pure_ (i := 17) (N := some 88) (v := undef) (a' := ?_) #[true, true, true, true, true, true, true, true, true, true, true, true, true, true, true, true, true, true, false, false] rfl rfl (by kernel_rfl) (fun _ _ _ h => h) (Or.inr ⟨by rfl, rfl⟩) ?_ ?_
                    rotate_left
                    · simp only [Act.put, List.setIfInBounds_toArray, List.set_cons_zero, List.set_cons_succ, i64_w, i32_w]; rfl
                    refine last_ (i := 18) (N := some 89) #[true, true, true, true, true, true, true, true, true, true, true, true, true, true, true, true, true, true, true, false] rfl rfl (by kernel_rfl) (by decide) (fun K hK => ?_)
                    refine off_ (by rfl) ?_
                    refine hK.out _ _ ?_
                    clear hK K
                    refine norm_ (a' := ?_) ?_ ?_
                    rotate_left
                    · show Act.put _ (some 89) _ = _
                      simp only [Act.put, List.setIfInBounds_toArray, List.set_cons_zero, List.set_cons_succ, i64_w, i32_w]
                      rfl
                    refine pure_ (i := 19) (N := (some 90)) (v := ?_) (a' := ?_) #[true, true, true, true, true, true, true, true, true, true, true, true, true, true, true, true, true, true, true, true] rfl rfl (by kernel_rfl) (fun _ _ _ h => h) (Or.inl ⟨by rfl, ?_⟩) ?_ ?_
                    rotate_left
                    · intro w'; go_simp; with_reducible rfl
                    rotate_left
                    · simp only [Act.put, List.setIfInBounds_toArray, List.set_cons_zero, List.set_cons_succ, i64_w, i32_w]; rfl
                    refine done_ (by kernel_rfl) ?_
                    obtain ⟨hc0, hc1, hc2, hc3, hc4, hc5, hf3, hf4, hf5⟩ := HS7.out.cells
                    have HC7 := Aside0.mk (ChC.of_R HR7.out)
                    cases ov2 with
                    | true =>
                      have h := HH2.out
                      rw [if_pos rfl] at h
                      simp only [Option.some.injEq, Prod.mk.injEq] at h
                      obtain ⟨rfl, rfl, rfl, rfl⟩ := h
                      go_wp2
                      go_ret
                      exact ⟨rfl, _, HS7.out, HC7.out, HB7.out, HK7.out⟩
                    | false =>
                      have h := HH2.out
                      rw [if_neg (by simp)] at h
                      have H' := Aside0.mk h
                      clear h HH2
                      go_wp2
                      go_roundg k1
                      case measure => have := HK1.out; omega
                      case rel => exact ⟨wrap64 (x + 1), _, false, _, cn, (by first | rfl | (simp [i64_w]; done)), H', ⟨by have := HK1.out; omega⟩, HS7, HC7, HB7, HK7⟩
                · rw [if_neg c9] at h
                  cases h
              · rw [if_neg c8] at h
                cases h
            · rw [if_neg c7] at h
              cases h
        · rw [if_neg c5] at h
          have c5b0 : decide (x < (tr.length : Int)) = false := decide_eq_false c5
          clear c5
          by_cases c8 : i ≤ ch2.length
          · rw [if_pos c8] at h
            simp only [Option.some.injEq, Prod.mk.injEq] at h
            obtain ⟨rfl, rfl, rfl, rfl⟩ := h
            obtain ⟨A2, cc2, rfl, hle2, hz2, hbl2, hC2⟩ := HCH.out
            have HCT2 := Aside0.mk (ChC.take HCH.out c8)
            have hcutC : ∀ W : World, (Instr.slice 22 (.slice A2 ch2.length cc2) none (some (.int .i64 (i : Int))) (some (.int .i64 (i : Int)))).run Try.prog W = .ok (.slice A2 i i) W := by
              intro W
              have ha : (A2.map fun x => x.add 0) = A2 := by cases A2 <;> simp [Addr.add]
              obtain ⟨i0, hi0, _, hsz0, _⟩ := info_parts info3
              have hel : Try.prog.elem 22 = 3 := by simp [Program.elem, Try.underlying22]
              have hu : Try.prog.underlying 22 = some (.slice (Try.prog.elem 22)) := by rw [hel]; exact Try.underlying22
              rw [run_slice_hm W 22 A2 ch2.length cc2 hu .i64 .i64 i i (by omega) (by omega) (by omega), hel]
              simp [sizeOf, typeInfo, hi0, sliced, Result.andThen, ha]
            clear hle2 hz2 hbl2 hC2 HCH c8
            go_wp2
            generalize hV6 : World.setCell wr _ _ = V6
            have HS6 : St64 V6 g t (some ad) v.length cv bu us2 ov2 (.slice A2 i i) := by rw [← hV6]; exact HS.out.ch_ _
            have HKq := KeepBut.set_ (KeepBut.refl wr g none) 5 (.slice A2 i i)
            rw [hV6] at HKq
            have HB6 : Below w0.heap.size w0 V6 := by rw [← hV6]; exact below_set HB.out HW0.out
            go_ret
            exact ⟨rfl, _, HS6, HCT2.out.keep HKq, (fun h => by cases h), HB6, HK.out.trans HKq (.inl rfl)⟩
          · rw [if_neg c8] at h
            cases h
    · rw [if_neg e2] at h
      cases h


end Go.Proofs.Ytdgdjbehddeepaa.PAll
