/- What calls of the Go functions below do, each under the premises that its theorem states. Laid by a program of the claimant, which drives the kit's print; some texts are written by hand. -/
import Derived.Test.YtdgdjbehddeepaaPAllx0
import Derived.Test.YtdgdjbehddeepaaPAllxf10
import Derived.Test.YtdgdjbehddeepaaPAllxf15
import Derived.Test.YtdgdjbehddeepaaPAllxf16
import Derived.Test.YtdgdjbehddeepaaPAllxf21
import Derived.Test.YtdgdjbehddeepaaPAllxp21
namespace Go.Proofs.Ytdgdjbehddeepaa.PAll
open Go.RowKit Go.Proofs.YtdgdjbehddeepaaW.PrintWords Go.Proofs.YtdgdjbehddeepaaW.PrintLast Go.Proofs.YtdgdjbehddeepaaW.PrintMore
attribute [local go_sem] max2_int min2_int max_two min_two max_three min_three max_four min_four   -- for this text's walks alone
set_option linter.unusedVariables false
set_option linter.unusedSimpArgs false

/-! ### railplanlaw20_PlatformOverlapIsCommon: function 3 -/
def railplanlaw20_PlatformOverlapIsCommon.f (a0 : Int) (l1 : List Int) : Option Bool := some true
def railplanlaw20_PlatformOverlapIsCommon.Pure : Prop := ∀ (a0 : Int) (l1 : List Int), l1.length * 8 ≤ 140737488351232 → ∃ (k : Nat) (p : Int) (v : List S28), railplankeep_Pick.f a0 30 = some p ∧ 0 ≤ p ∧ p < 30 ∧ railplanlaw20_visits.f k (2 + p) l1 = some v ∧ railplanlaw20_awake.f k = some true ∧
  (2 ≤ v.length → ∃ (m0 m1 : Nat → Int) (cm : Nat → Bool), cm 0 = false ∧
    (∀ s : Nat, (s : Int) < 2 + p → railplanref1_Mod.f (wrap64 ((s : Int) - (rd_T28 v 0).f0)) (2 + p) = some (m0 s) ∧ railplanref1_Mod.f (wrap64 ((s : Int) - (rd_T28 v 1).f0)) (2 + p) = some (m1 s) ∧ cm (s + 1) = (cm s || (decide (m0 s < (rd_T28 v 0).f1) && decide (m1 s < (rd_T28 v 1).f1)))) ∧
    platform_Overlap.f k (2 + p) (rd_T28 v 0).f0 (rd_T28 v 0).f1 (rd_T28 v 0).f2 (rd_T28 v 1).f0 (rd_T28 v 1).f1 (rd_T28 v 1).f2 = some (cm (2 + p).toNat) ∧
    platform_Overlap.f k (2 + p) (rd_T28 v 1).f0 (rd_T28 v 1).f1 (rd_T28 v 1).f2 (rd_T28 v 0).f0 (rd_T28 v 0).f1 (rd_T28 v 0).f2 = some (cm (2 + p).toNat))
def bx (b : Bool) : Bool := b
set_option maxHeartbeats 8000000 in
set_option maxRecDepth 100000 in
theorem railplanlaw20_PlatformOverlapIsCommon.main (P : railplanlaw20_PlatformOverlapIsCommon.Pure) (a0 : Int) (A1 : Option Addr) (c1 : Nat) (l1 : List Int) (w : World) (w0 : (Lit.int .i64 a0).wf = true) (hr1 : Kd.C (Kd.int .i64) w A1 l1.length l1) (hc1 : l1.length ≤ c1) (y1 : l1.length * 8 ≤ 140737488351232) (hw1 : ∀ n ∈ l1, (Lit.int .i64 n).wf = true) :
    Calls Try.prog 3 #[.int .i64 a0, .slice A1 l1.length c1] w fun e w' => e = .returned (.bool true) ∧ Below w.heap.size w w' := by
  obtain ⟨k, p, v, hp, hp0, hp1, hv, haw, htwo⟩ := P a0 l1 y1
  have HR1 := Aside0.mk hr1
  have HC1 := Aside0.mk hc1
  have KP := Aside0.mk (railplankeep_Pick.calls a0 30 p w hp)
  obtain ⟨T, hT⟩ : ∃ T, T = 2 + p := ⟨_, rfl⟩
  have hTw : IntKind.i64.wrap (2 + p) = T := by rw [i64_w, IntWalk.wrap64_in _ (by omega)]; exact hT.symm
  have hT2 : wrap64 (2 + p) = T := by rw [IntWalk.wrap64_in _ (by omega)]; exact hT.symm
  have hT0 : 2 ≤ T := by omega
  have hT1 : T ≤ 31 := by omega
  rw [← hT] at hv htwo
  have KV := Aside0.mk (fun (W : World) (hb : Below w.heap.size w W) => railplanlaw20_visits.calls k T A1 c1 l1 v W (Kd.C_below HR1.out hb) HC1.out hv)
  have KA := Aside0.mk (fun (W : World) => railplanlaw20_awake.calls k true W haw)
  clear hr1 hc1 hp hv haw hw1 y1 w0 hp0 hp1 hT P
  by_cases h2 : 2 ≤ v.length
  · obtain ⟨m0, m1, cm, hcm0, hst, hov0, hov1⟩ := htwo h2
    have h2b : decide (v.length < 2) = false := decide_eq_false (by omega)
    have h2c : decide ((v.length : Int) < 2) = false := decide_eq_false (by omega)
    have p0 : (0 : Int) ≤ 0 := Int.le_refl _
    have q0 : (0 : Int) < (v.length : Int) := by omega
    have p1 : (0 : Int) ≤ 1 := by omega
    have q1 : (1 : Int) < (v.length : Int) := by omega
    have HM := Aside0.mk hst
    have HCM := Aside0.mk hcm0
    have HT0 := Aside0.mk hT0
    have HT1 := Aside0.mk hT1
    have KO0 := Aside0.mk hov0
    have KO1 := Aside0.mk hov1
    have HQ := Aside0.mk (⟨p0, q0, p1, q1⟩ : (0 : Int) ≤ 0 ∧ (0 : Int) < (v.length : Int) ∧ (0 : Int) ≤ 1 ∧ (1 : Int) < (v.length : Int))
    clear htwo hst hov0 hov1 h2 hcm0 hT0 hT1 p0 p1
    have r0 : 0 < v.length := by omega
    have r1 : 1 < v.length := by omega
    have r0b : decide (0 < v.length) = true := decide_eq_true r0
    have r1b : decide (1 < v.length) = true := decide_eq_true r1
    have q0b : decide ((0 : Int) < (v.length : Int)) = true := decide_eq_true q0
    have q1b : decide ((1 : Int) < (v.length : Int)) = true := decide_eq_true q1
    replace q0 := eq_true q0
    replace q1 := eq_true q1
    replace r0 := eq_true r0
    replace r1 := eq_true r1
    go_enter Try.func3, Try.ntmps3
    go_wp2_with (first
      | (go_at_call 10; (with_reducible refine KP.out.mono ?_); rintro e w3 ⟨rfl, ⟨n3, rfl⟩⟩)
      | (go_at_call 11; (with_reducible refine (KV.out _ (pw_below_drewN (Below.refl _ _) _)).mono ?_); rintro e w4 ⟨v4, rfl, hS4, hB4⟩; have HS4 := Aside0.mk hS4; have HB4 := Aside0.mk (below_step (pw_below_drewN (Below.refl _ _) n3) hB4); clear hS4 hB4; obtain ⟨A4, c4, e4⟩ := Kd.S_slice HS4.out; subst e4))
    obtain ⟨_, hle4, hC4⟩ := Kd.S_reads' HS4.out
    obtain ⟨ad, B0, d0, e4, x00, x01, x02, l0, i0⟩ := at_T28 hC4 0 HQ.out.1 HQ.out.2.1
    obtain ⟨ad', B1, d1, e5, x10, x11, x12, l1', i1⟩ := at_T28 hC4 1 HQ.out.2.2.1 HQ.out.2.2.2
    cases e4
    cases e5
    have hz0 : (0 : Int).toNat = 0 := rfl
    have hz1 : (1 : Int).toNat = 1 := rfl
    rw [hz0] at x00 x01 x02
    rw [hz1] at x10 x11 x12
    obtain ⟨y00, hy00⟩ : ∃ y, y = (rd_T28 v 0).f0 := ⟨_, rfl⟩
    obtain ⟨y01, hy01⟩ : ∃ y, y = (rd_T28 v 0).f1 := ⟨_, rfl⟩
    obtain ⟨y02, hy02⟩ : ∃ y, y = (rd_T28 v 0).f2 := ⟨_, rfl⟩
    obtain ⟨y10, hy10⟩ : ∃ y, y = (rd_T28 v 1).f0 := ⟨_, rfl⟩
    obtain ⟨y11, hy11⟩ : ∃ y, y = (rd_T28 v 1).f1 := ⟨_, rfl⟩
    obtain ⟨y12, hy12⟩ : ∃ y, y = (rd_T28 v 1).f2 := ⟨_, rfl⟩
    rw [← hy00] at x00 KO0 KO1 HM
    rw [← hy01] at x01 KO0 KO1 HM
    rw [← hy02] at x02 l0 i0 KO0 KO1
    rw [← hy10] at x10 KO0 KO1 HM
    rw [← hy11] at x11 KO0 KO1 HM
    rw [← hy12] at x12 l1' i1 KO0 KO1
    have haz : ad.add 0 = ad := by simp [Addr.add]
    rw [show 0 * 3 = 0 from rfl, haz] at x00 x01 x02
    rw [show 1 * 3 = 3 from rfl, show ad.add 3 = ⟨ad.block, ad.off + 3, none⟩ from by simp [Addr.add]] at x10 x11 x12
    clear hy00 hy01 hy02 hy10 hy11 hy12 hz0 hz1 hC4 hle4 haz
    have X00 := Aside0.mk x00
    have X01 := Aside0.mk x01
    have X02 := Aside0.mk x02
    have X10 := Aside0.mk x10
    have X11 := Aside0.mk x11
    have X12 := Aside0.mk x12
    have I0 := Aside0.mk i0
    have I1 := Aside0.mk i1
    have L0 := Aside0.mk l0
    have L1 := Aside0.mk l1'
    have HBB := Aside0.mk (Below.refl w4.heap.size w4)
    clear x00 x01 x02 x10 x11 x12 i0 i1 l0 l1'
    go_loopg [6, 7] T.toNat (fun g v6 v7 w' => ∃ (s : Nat) (b : Bool), (s : Int) ≤ T ∧ T.toNat - s ≤ g ∧ v6 = .bool b ∧ v7 = .int .i64 (s : Int) ∧ Aside0 (cm s = b) ∧ Aside0 (Below w4.heap.size w4 w'))
    case atStart => exact ⟨0, false, by have := HT0.out; omega, by omega, rfl, rfl, HCM, HBB⟩
    case round =>
      obtain ⟨s, b, hs, hg, rfl, rfl, HC, HBW⟩ := hrel
      clear HBB
      by_cases hlt : (s : Int) < T
      · have hltb : decide ((s : Int) < T) = true := decide_eq_true hlt
        obtain ⟨hm0, hm1, hcm⟩ := HM.out s hlt
        have KM0 := Aside0.mk (fun (W : World) => railplanref1_Mod.calls _ _ _ W hm0)
        have KM1 := Aside0.mk (fun (W : World) => railplanref1_Mod.calls _ _ _ W hm1)
        rw [HC.out] at hcm
        have HCM1 := Aside0.mk hcm
        have HLT := Aside0.mk hlt
        have hT1 := HT1.out
        clear hm0 hm1 hcm hlt
        cases b with
        | true =>
          go_wp2
          go_quiet (fail)
          go_wp2
          go_roundg (T.toNat - (s + 1))
          case measure => have := HLT.out; omega
          case rel => exact ⟨s + 1, true, by have := HLT.out; omega, by omega, rfl, by first | rfl | go_num, ⟨by rw [HCM1.out]; rfl⟩, ⟨pw_below_drewN HBW.out _⟩⟩
        | false =>
          obtain ⟨e0, he0⟩ : ∃ e, e = wrap64 ((s : Int) - y00) := ⟨_, rfl⟩
          obtain ⟨e1, he1⟩ : ∃ e, e = wrap64 ((s : Int) - y10) := ⟨_, rfl⟩
          obtain ⟨n0, hn0⟩ : ∃ n, n = m0 s := ⟨_, rfl⟩
          obtain ⟨n1, hn1⟩ : ∃ n, n = m1 s := ⟨_, rfl⟩
          rw [← he0, ← hn0] at KM0
          rw [← he1, ← hn1] at KM1
          rw [← hn0, ← hn1] at HCM1
          have hw0 : IntKind.i64.wrap ((s : Int) - y00) = e0 := by rw [i64_w, he0]
          have hw1 : IntKind.i64.wrap ((s : Int) - y10) = e1 := by rw [i64_w, he1]
          clear he0 he1 hn0 hn1
          have SB := Aside0.mk (fun (W : World) (hb : Below w4.heap.size w4 W) => show W.cell? ad = some (.int .i64 y00) ∧ W.cell? ⟨ad.block, ad.off + 1, none⟩ = some (.int .i64 y01) ∧ W.cell? ⟨ad.block, ad.off + 3, none⟩ = some (.int .i64 y10) ∧ W.cell? ⟨ad.block, ad.off + 3 + 1, none⟩ = some (.int .i64 y11) ∧ Below w4.heap.size w4 W from ⟨cell_b hb X00.out, cell_b hb X01.out, cell_b hb X10.out, cell_b hb X11.out, hb⟩)
          obtain ⟨bA, hbA⟩ : ∃ b, decide (n0 < y01) = b := ⟨_, rfl⟩
          obtain ⟨bB, hbB⟩ : ∃ b, decide (n1 < y11) = b := ⟨_, rfl⟩
          rw [hbA, hbB] at HCM1
          obtain ⟨hx0, hx1, hx2, hx3, _⟩ := SB.out wr HBW.out
          clear SB
          cases bA <;> cases bB
          all_goals
            go_wp2
            repeat (go_quiet (first | (go_at_call 13; first | (with_reducible refine (KM0.out _).mono ?_) | (with_reducible refine (KM1.out _).mono ?_)); rintro e w' ⟨rfl, ⟨nd, rfl⟩⟩; (try first | exact ⟨rfl, _, World.drewN_drewN _ _ _⟩ | exact ⟨rfl, _, Eq.trans (World.drewN_drewN _ _ _) (congrArg (World.drewN _) (Nat.add_assoc _ _ _))⟩)))
            clear hw0 hw1 hbA hbB
            go_wp2
            go_roundg (T.toNat - (s + 1))
            case measure => have := HLT.out; omega
            case rel => exact ⟨s + 1, _, by have := HLT.out; omega, by omega, rfl, by first | rfl | go_num, ⟨by rw [HCM1.out]; rfl⟩, ⟨pw_below_drewN HBW.out _⟩⟩
      · have hltb : decide ((s : Int) < T) = false := decide_eq_false hlt
        have hsT : s = T.toNat := by omega
        subst hsT
        rw [HC.out] at KO0 KO1
        have SB := Aside0.mk (fun (W : World) (hb : Below w4.heap.size w4 W) => show W.cell? ad = some (.int .i64 y00) ∧ W.cell? ⟨ad.block, ad.off + 1, none⟩ = some (.int .i64 y01) ∧ W.cell? ⟨ad.block, ad.off + 2, none⟩ = some (.slice B0 y02.length d0) ∧ W.cell? ⟨ad.block, ad.off + 3, none⟩ = some (.int .i64 y10) ∧ W.cell? ⟨ad.block, ad.off + 3 + 1, none⟩ = some (.int .i64 y11) ∧ W.cell? ⟨ad.block, ad.off + 3 + 2, none⟩ = some (.slice B1 y12.length d1) ∧ Below w4.heap.size w4 W from ⟨cell_b hb X00.out, cell_b hb X01.out, cell_b hb X02.out, cell_b hb X10.out, cell_b hb X11.out, cell_b hb X12.out, hb⟩)
        have K0 := Aside0.mk (fun (W : World) (hb : Below w4.heap.size w4 W) => platform_Overlap.calls k T y00 y01 (fun _ => True) B0 d0 y02 y10 y11 (fun _ => True) B1 d1 y12 b W (V_ints (Kd.C_below I0.out hb) L0.out) (V_ints (Kd.C_below I1.out hb) L1.out) KO0.out)
        have K1 := Aside0.mk (fun (W : World) (hb : Below w4.heap.size w4 W) => platform_Overlap.calls k T y10 y11 (fun _ => True) B1 d1 y12 y00 y01 (fun _ => True) B0 d0 y02 b W (V_ints (Kd.C_below I1.out hb) L1.out) (V_ints (Kd.C_below I0.out hb) L0.out) KO1.out)
        cases b
        all_goals
          have hu28 := Try.underlying28
          go_wp2
          go_region_held3 (fun w' => w'.cell? ad = some (.int .i64 y00) ∧ w'.cell? ⟨ad.block, ad.off + 1, none⟩ = some (.int .i64 y01) ∧ w'.cell? ⟨ad.block, ad.off + 2, none⟩ = some (.slice B0 y02.length d0) ∧ w'.cell? ⟨ad.block, ad.off + 3, none⟩ = some (.int .i64 y10) ∧ w'.cell? ⟨ad.block, ad.off + 3 + 1, none⟩ = some (.int .i64 y11) ∧ w'.cell? ⟨ad.block, ad.off + 3 + 2, none⟩ = some (.slice B1 y12.length d1) ∧ Below w4.heap.size w4 w')
            (first | exact SB.out _ HBW.out | exact SB.out _ (below_drew HBW.out) | exact SB.out _ (by assumption))
            (first
              | (go_at_call 12; (with_reducible refine (KA.out _).mono ?_); rintro e w5 ⟨rfl, hd5⟩; have hB5 := below_step (by first | assumption | exact HBW.out | exact below_drew HBW.out) hd5)
              | (go_at_call 14; first | ((with_reducible refine (K0.out _ (by assumption)).mono ?_); rintro e w6 ⟨rfl, hd6⟩; have hB6 := below_step (show Below w4.heap.size w4 _ from by assumption) hd6) | ((with_reducible refine (K1.out _ (by assumption)).mono ?_); rintro e w7 ⟨rfl, hd7⟩; have hB7 := below_step (show Below w4.heap.size w4 _ from by assumption) hd7)))
          rename_i hHeld
          obtain ⟨_, _, _, _, _, _, hBZ⟩ := hHeld
          go_wp2
          go_ret
          exact ⟨rfl, below_step HB4.out hBZ⟩
  · have h2b : decide (v.length < 2) = true := decide_eq_true (by omega)
    have h2c : decide ((v.length : Int) < 2) = true := decide_eq_true (by omega)
    clear htwo hT0 hT1
    go_enter Try.func3, Try.ntmps3
    go_wp2_with (first
      | (go_at_call 10; (with_reducible refine KP.out.mono ?_); rintro e w3 ⟨rfl, ⟨n3, rfl⟩⟩)
      | (go_at_call 11; (with_reducible refine (KV.out _ (pw_below_drewN (Below.refl _ _) _)).mono ?_); rintro e w4 ⟨v4, rfl, hS4, hB4⟩; have HB4 := Aside0.mk (below_step (pw_below_drewN (Below.refl _ _) n3) hB4); clear hB4; obtain ⟨A4, c4, e4⟩ := Kd.S_slice hS4; subst e4; clear hS4)
      | (go_at_call 12; (with_reducible refine (KA.out _).mono ?_); rintro e w5 ⟨rfl, hd5⟩))
    go_ret
    exact ⟨rfl, below_step HB4.out hd5⟩


theorem railplanlaw20_PlatformOverlapIsCommon.walk (P : railplanlaw20_PlatformOverlapIsCommon.Pure) (a0 : Int) (a1 : Option Addr) (len1 cap1 : Nat) (z1 : List Int) (w : World) (w0 : (Lit.int .i64 a0).wf = true) (w1 : (a1 = none ∧ len1 = 0 ∧ cap1 = 0 ∧ z1 = []) ∨ ∃ x, a1 = some x ∧ len1 ≤ cap1 ∧ cap1 ≤ maxLen ∧ z1.length = cap1 ∧ (∀ i, i < z1.length → w.cell? (x.add i) = some (.int .i64 (z1.getD i 0))) ∧ ∀ n ∈ z1, (Lit.int .i64 n).wf = true) (y1 : len1 * 8 ≤ 140737488351232) :
    Calls Try.prog 3 #[.int .i64 a0, .slice a1 len1 cap1] w fun e w' => e = .returned (.bool true) ∧ Below w.heap.size w w' := by
  obtain ⟨l1, rfl, hr1, hm1, hw1, hc1⟩ := ReadsInt.ofRowC w1
  exact railplanlaw20_PlatformOverlapIsCommon.main P a0 _ _ l1 w w0 (Kd.C_of_reads (d := (0 : Int)) (h1 := fun _ => rfl) hr1) hc1 y1 hw1

end Go.Proofs.Ytdgdjbehddeepaa.PAll
