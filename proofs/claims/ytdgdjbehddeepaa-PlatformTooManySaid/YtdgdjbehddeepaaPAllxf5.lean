/- What calls of the Go functions below do, each under the premises that its theorem states. Laid by a program of the claimant, which drives the kit's print; some texts are written by hand. -/
import Derived.Test.YtdgdjbehddeepaaPAllx0
import Derived.Test.YtdgdjbehddeepaaPAllxf10
import Derived.Test.YtdgdjbehddeepaaPAllxf15
import Derived.Test.YtdgdjbehddeepaaPAllxf16
import Derived.Test.YtdgdjbehddeepaaPAllxf21
import Derived.Test.YtdgdjbehddeepaaPAllxp23
namespace Go.Proofs.Ytdgdjbehddeepaa.PAll
open Go.RowKit Go.Proofs.YtdgdjbehddeepaaW.PrintWords Go.Proofs.YtdgdjbehddeepaaW.PrintLast Go.Proofs.YtdgdjbehddeepaaW.PrintMore
attribute [local go_sem] max2_int min2_int max_two min_two max_three min_three max_four min_four   -- for this text's walks alone
set_option linter.unusedVariables false
set_option linter.unusedSimpArgs false

/-! ### railplanlaw20_PlatformTooMany: function 5 -/
def railplanlaw20_PlatformTooMany.f (a0 : Int) (l1 : List Int) (a2 : Int) : Option Bool := some true
def railplanlaw20_PlatformTooMany.Pure : Prop := ∀ (a0 : Int) (l1 : List Int) (a2 : Int), l1.length * 8 ≤ 140737488351232 → ∃ (k : Nat) (p sx : Int) (v : List S28) (m : Nat → Int) (r1 : List Int) (r2 r3 : Int), railplankeep_Pick.f a0 30 = some p ∧ 0 ≤ p ∧ p < 30 ∧ railplanlaw20_visits.f k (2 + p) l1 = some v ∧ railplankeep_Pick.f a2 (2 + p) = some sx ∧ railplanlaw20_awake.f k = some true ∧ v.length ≤ 7 ∧
  (∀ i : Nat, i < v.length → railplanref1_Mod.f (wrap64 (sx - (rd_T28 v i).f0)) (2 + p) = some (m i) ∧ (rd_T28 v i).f2.length ≤ 8 ∧ ∀ c ∈ (rd_T28 v i).f2, 0 ≤ c ∧ c < 4) ∧
  platform_Assign.f k (2 + p) v 262144 = some (r1, r2, r3) ∧ ((tmRun v m v.length).1 ≤ tmCnt (tmRun v m v.length).2 4 ∨ r3 = 14)
set_option maxHeartbeats 8000000 in
set_option maxRecDepth 100000 in
theorem railplanlaw20_PlatformTooMany.main (P : railplanlaw20_PlatformTooMany.Pure) (a0 : Int) (A1 : Option Addr) (c1 : Nat) (l1 : List Int) (a2 : Int) (w : World) (w0 : (Lit.int .i64 a0).wf = true) (hr1 : Kd.C (Kd.int .i64) w A1 l1.length l1) (hc1 : l1.length ≤ c1) (y1 : l1.length * 8 ≤ 140737488351232) (hw1 : ∀ n ∈ l1, (Lit.int .i64 n).wf = true) (w2 : (Lit.int .i64 a2).wf = true) :
    Calls Try.prog 5 #[.int .i64 a0, .slice A1 l1.length c1, .int .i64 a2] w fun e w' => e = .returned (.bool true) ∧ Below w.heap.size w w' := by
  obtain ⟨k, p, sx, v, m, r1, r2, r3, hp, hp0, hp1, hv, hsx, haw, hv7, hm, has, hfin⟩ := P a0 l1 a2 y1
  have HR1 := Aside0.mk hr1
  have HC1 := Aside0.mk hc1
  have KP := Aside0.mk (railplankeep_Pick.calls a0 30 p w hp)
  obtain ⟨T, hT⟩ : ∃ T, T = 2 + p := ⟨_, rfl⟩
  have hTw : IntKind.i64.wrap (2 + p) = T := by rw [i64_w, IntWalk.wrap64_in _ (by omega)]; exact hT.symm
  have hT2 : wrap64 (2 + p) = T := by rw [IntWalk.wrap64_in _ (by omega)]; exact hT.symm
  rw [← hT] at hv hsx hm has
  have KV := Aside0.mk (fun (W : World) (hb : Below w.heap.size w W) => railplanlaw20_visits.calls k T A1 c1 l1 v W (Kd.C_below HR1.out hb) HC1.out hv)
  have KP2 := Aside0.mk (fun (W : World) => railplankeep_Pick.calls a2 T sx W hsx)
  have KA := Aside0.mk (fun (W : World) => railplanlaw20_awake.calls k true W haw)
  have HAS := Aside0.mk has
  have HM := Aside0.mk hm
  have HF := Aside0.mk hfin
  have HV7 := Aside0.mk hv7
  clear hr1 hc1 hp hv haw hw1 y1 w0 w2 hp0 hp1 hT P hsx hm has hfin hv7
  go_enter Try.func5, Try.ntmps5
  go_wp2_with (first
    | (go_at_call 10; first | ((with_reducible refine KP.out.mono ?_); rintro e w3 ⟨rfl, ⟨n3, rfl⟩⟩) | ((with_reducible refine (KP2.out _).mono ?_); rintro e w5 ⟨rfl, ⟨n5, rfl⟩⟩))
    | (go_at_call 11; (with_reducible refine (KV.out _ (pw_below_drewN (Below.refl _ _) _)).mono ?_); rintro e w4 ⟨v4, rfl, hS4, hB4⟩; have HS4 := Aside0.mk hS4; have HB4 := Aside0.mk (below_step (pw_below_drewN (Below.refl _ _) n3) hB4); clear hS4 hB4; obtain ⟨A4, c4, e4⟩ := Kd.S_slice HS4.out; subst e4)
    | ((with_reducible refine gate_dst (N := 10) rfl ?_); refine box_event ?hg (N := 10) ?hd (cs := #[.bool false, .bool false, .bool false, .bool false]) (t := 39) ?hr ?_; (case hd => rfl); (case hg => rfl); (case hr => first | (go_simp; done) | (go_simp; rfl)); intro gb hg w6 hbox hb6; have HG := Aside0.mk (show w4.heap.size ≤ gb from by rw [hg]; exact Nat.le_refl _); have HB6 := Aside0.mk (show Below w4.heap.size w4 w6 from below_step (pw_below_drewN (Below.refl _ _) _) hb6); have HBK := Aside0.mk (show tmBlk w6 gb [false, false, false, false] from ⟨hbox, rfl⟩); have z0 := HBK.out.cell 0 (by omega); have z1 := HBK.out.cell 1 (by omega); have z2 := HBK.out.cell 2 (by omega); have z3 := HBK.out.cell 3 (by omega); have f0 := blk_frozen hbox 0; have f1 := blk_frozen hbox 1; have f2 := blk_frozen hbox 2; have f3 := blk_frozen hbox 3; clear hbox hb6 hg))
  generalize hW0 : World.setCell (World.setCell (World.setCell (World.setCell w6 _ _) _ _) _ _) _ _ = W0
  have HBK0 : Aside0 (tmBlk W0 gb [false, false, false, false]) := ⟨by
    have b4 := blk_set (blk_set (blk_set (blk_set HBK.out.1 0 (.bool false)) 1 (.bool false)) 2 (.bool false)) 3 (.bool false)
    rw [hW0] at b4
    exact ⟨b4, rfl⟩⟩
  have HB0 : Aside0 (Below w4.heap.size w4 W0) := ⟨by rw [← hW0]; exact below_set (below_set (below_set (below_set HB6.out HG.out) HG.out) HG.out) HG.out⟩
  obtain ⟨_, hle4, hC4⟩ := Kd.S_reads' HS4.out
  have HC4 := Aside0.mk hC4
  have HLE4 := Aside0.mk hle4
  clear hW0 z0 z1 z2 z3 f0 f1 f2 f3 HBK HB6 hle4 hC4
  have hu28 := Try.underlying28
  go_loopg [9, 30] v.length (fun g v9 v30 w' => ∃ (i : Nat) (M : Int) (bs : List Bool), i ≤ v.length ∧ v.length - i ≤ g ∧ v9 = .int .i64 M ∧ v30 = .int .i64 (i : Int) ∧ Aside0 (tmRun v m i = (M, bs)) ∧ Aside0 (tmBlk w' gb bs) ∧ Aside0 (Below w4.heap.size w4 w'))
  case atStart => exact ⟨0, 0, _, Nat.zero_le _, by omega, rfl, rfl, ⟨rfl⟩, HBK0, HB0⟩
  case round =>
    clear HBK0 HB0
    obtain ⟨i, M, bs, hi, hg, rfl, rfl, HR, HBK, HBW⟩ := hrel
    have hMb : 0 ≤ M ∧ M ≤ 7 := by
      have := tmRun_bd v m i
      rw [HR.out] at this
      have := HV7.out
      dsimp only at *
      omega
    obtain ⟨hM0, hM1⟩ := hMb
    have hi7 : (i : Int) ≤ 7 := by have := HV7.out; omega
    by_cases hlt : i < v.length
    · have hltz : (i : Int) < (v.length : Int) := Int.ofNat_lt.2 hlt
      have h0z : (0 : Int) ≤ (i : Int) := Int.natCast_nonneg _
      obtain ⟨hmod, htl, htc⟩ := HM.out i hlt
      obtain ⟨ad, B, d, e7, hx0, hx1, hx2, hl2, hi2⟩ := at_T28 HC4.out (i : Int) h0z hltz
      cases e7
      rw [Int.toNat_natCast] at hx0 hx1 hx2
      have hRun : tmRun v m (i + 1) = if m i < (rd_T28 v i).f1 then (M + 1, tmMark (rd_T28 v i).f2 bs) else (M, bs) := by
        simp only [tmRun]; rw [HR.out]
      obtain ⟨y0, hy0⟩ : ∃ y, y = (rd_T28 v i).f0 := ⟨_, rfl⟩
      obtain ⟨y1, hy1⟩ : ∃ y, y = (rd_T28 v i).f1 := ⟨_, rfl⟩
      obtain ⟨tr, htr⟩ : ∃ y, y = (rd_T28 v i).f2 := ⟨_, rfl⟩
      rw [← hy0] at hx0 hmod
      rw [← hy1] at hx1 hRun
      rw [← htr] at hx2 hl2 hi2 htl htc hRun
      obtain ⟨e0, he0⟩ : ∃ e, e = wrap64 (sx - y0) := ⟨_, rfl⟩
      obtain ⟨n0, hn0⟩ : ∃ n, n = m i := ⟨_, rfl⟩
      rw [← he0, ← hn0] at hmod
      rw [← hn0] at hRun
      have hw0 : IntKind.i64.wrap (sx - y0) = e0 := by rw [i64_w, he0]
      have KM := Aside0.mk (fun (W : World) => railplanref1_Mod.calls _ _ _ W hmod)
      have HRUN := Aside0.mk hRun
      have HTC := Aside0.mk htc
      have HTL := Aside0.mk htl
      have HI2 := Aside0.mk hi2
      have HL2 := Aside0.mk hl2
      have HX2 := Aside0.mk hx2
      have hx0' := cell_b2 HBW.out hx0
      have hx1' := cell_b2 HBW.out hx1
      have HLT := Aside0.mk hlt
      clear hx0 hx1 hx2 hl2 hi2 htl htc hRun hmod hy0 hy1 htr he0 hn0 hlt
      have hltz' := eq_true hltz
      have h0z' := eq_true h0z
      have hlb : decide ((i : Int) < (v.length : Int)) = true := decide_eq_true hltz
      clear hltz h0z
      by_cases hh : n0 < y1
      · have hhb : decide (n0 < y1) = true := decide_eq_true hh
        have HRUN2 : Aside0 (tmRun v m (i + 1) = (M + 1, tmMark tr bs)) := ⟨by rw [HRUN.out, if_pos hh]⟩
        clear hh HRUN
        go_wp2
        repeat (go_quiet (first | (go_at_call 13; (with_reducible refine (KM.out _).mono ?_)); rintro e w' ⟨rfl, ⟨nd, rfl⟩⟩; (try first | exact ⟨rfl, _, World.drewN_drewN _ _ _⟩ | exact ⟨rfl, _, Eq.trans (World.drewN_drewN _ _ _) (congrArg (World.drewN _) (Nat.add_assoc _ _ _))⟩)))
        have hx2' := cell_b2 HBW.out HX2.out
        have HBKq : Aside0 (tmBlk (wr.drewN nq) gb (tmMark (tr.take 0) bs)) := ⟨HBK.out.below (pw_below_drewN (Below.refl _ _) _)⟩
        have HBWq : Aside0 (Below w4.heap.size w4 (wr.drewN nq)) := ⟨pw_below_drewN HBW.out _⟩
        clear hw0 hhb hx0' hx1'
        go_wp2
        clear hx2'
        go_loopg [56] tr.length (fun g v56 w' => ∃ (q : Nat), q ≤ tr.length ∧ tr.length - q ≤ g ∧ v56 = .int .i64 (q : Int) ∧ Aside0 (tmBlk w' gb (tmMark (tr.take q) bs)) ∧ Aside0 (Below w4.heap.size w4 w'))
        case atStart => exact ⟨0, Nat.zero_le _, by omega, rfl, HBKq, HBWq⟩
        case round =>
          clear HBKq HBWq
          obtain ⟨q, hq, hgq, rfl, HBK2, HBW2⟩ := hrel
          have hq8 : (q : Int) ≤ 8 := by have := HTL.out; omega
          by_cases hqt : q < tr.length
          · have hqz : (q : Int) < (tr.length : Int) := Int.ofNat_lt.2 hqt
            have hq0 : (0 : Int) ≤ (q : Int) := Int.natCast_nonneg _
            obtain ⟨ae, e8, hye⟩ := Kd.at_int HI2.out (q : Int) hq0 hqz
            cases e8
            rw [Int.toNat_natCast] at hye
            have hce := HTC.out tr[q] (List.getElem_mem hqt)
            have hrd : rd tr (q : Int) = tr[q] := by unfold rd; rw [Int.toNat_natCast, List.getD_eq_getElem?_getD, List.getElem?_eq_getElem hqt]; rfl
            rw [hrd] at hye
            have hsn := tmMark_snoc tr q hqt bs
            obtain ⟨ce, hce'⟩ : ∃ ce, ce = tr[q] := ⟨_, rfl⟩
            rw [← hce'] at hye hce hsn
            have HSN := Aside0.mk hsn
            have HQT := Aside0.mk hqt
            have hye' := cell_b2 HBW2.out hye
            have hx2' := cell_b2 HBW2.out HX2.out
            have hcb : ce.toNat < 4 := by omega
            obtain ⟨hce0, hce4⟩ := hce
            have hz := HBK2.out.cell ce.toNat hcb
            have hfz := blk_frozen HBK2.out.1 ce.toNat
            clear hye hsn hce' hqt hrd hcb
            have hqz' := eq_true hqz
            have hq0' := eq_true hq0
            have hqb : decide ((q : Int) < (tr.length : Int)) = true := decide_eq_true hqz
            have hcz' := eq_true hce0
            have hc4' := eq_true hce4
            clear hqz hq0 hce0 hce4
            go_wp2
            go_roundg (tr.length - (q + 1))
            case measure => have := HQT.out; omega
            case rel => exact ⟨q + 1, by have := HQT.out; omega, by omega, by first | rfl | go_num, ⟨by rw [HSN.out]; exact HBK2.out.set_ _⟩, ⟨below_set HBW2.out HG.out⟩⟩
          · have hqz : ¬ (q : Int) < (tr.length : Int) := by omega
            have hqb : decide ((q : Int) < (tr.length : Int)) = false := decide_eq_false hqz
            have hqe : q = tr.length := by omega
            subst hqe
            have HBK3 : Aside0 (tmBlk wr gb (tmMark tr bs)) := ⟨by have := HBK2.out; rwa [List.take_length] at this⟩
            go_wp2
            go_roundg (v.length - (i + 1))
            case measure => have := HLT.out; omega
            case rel => exact ⟨i + 1, M + 1, _, by have := HLT.out; omega, by omega, rfl, by first | rfl | go_num, HRUN2, HBK3, HBW2⟩
      · have hhb : decide (n0 < y1) = false := decide_eq_false hh
        have HRUN2 : Aside0 (tmRun v m (i + 1) = (M, bs)) := ⟨by rw [HRUN.out, if_neg hh]⟩
        clear hh HRUN
        go_wp2
        repeat (go_quiet (first | (go_at_call 13; (with_reducible refine (KM.out _).mono ?_)); rintro e w' ⟨rfl, ⟨nd, rfl⟩⟩; (try first | exact ⟨rfl, _, World.drewN_drewN _ _ _⟩ | exact ⟨rfl, _, Eq.trans (World.drewN_drewN _ _ _) (congrArg (World.drewN _) (Nat.add_assoc _ _ _))⟩)))
        clear hw0 hhb
        go_wp2
        go_roundg (v.length - (i + 1))
        case measure => have := HLT.out; omega
        case rel => exact ⟨i + 1, M, bs, by have := HLT.out; omega, by omega, rfl, by first | rfl | go_num, HRUN2, ⟨HBK.out.below (pw_below_drewN (Below.refl _ _) _)⟩, ⟨pw_below_drewN HBW.out _⟩⟩
    · have hltz : ¬ (i : Int) < (v.length : Int) := by omega
      have hlb : decide ((i : Int) < (v.length : Int)) = false := decide_eq_false hltz
      have hie : i = v.length := by omega
      subst hie
      have hfin := HF.out
      rw [HR.out] at hfin
      have HFI := Aside0.mk hfin
      have KAS := Aside0.mk (fun (W : World) (hb : Below w4.heap.size w4 W) => platform_Assign.calls k T A4 c4 v 262144 r1 r2 r3 W (Kd.C_below HC4.out hb) HLE4.out HAS.out)
      clear hfin HF HAS HM
      go_wp2
      go_loopg [13, 70] 4 (fun g v13 v70 w' => ∃ (j : Nat) (Cn : Int), j ≤ 4 ∧ 4 - j ≤ g ∧ v13 = .int .i64 Cn ∧ v70 = .int .i64 (j : Int) ∧ Aside0 (tmCnt bs j = Cn) ∧ Aside0 (tmBlk w' gb bs) ∧ Aside0 (Below w4.heap.size w4 w'))
      case atStart => exact ⟨0, 0, by omega, by omega, rfl, rfl, ⟨rfl⟩, HBK, HBW⟩
      case round =>
        obtain ⟨j, Cn, hj, hgj, rfl, rfl, HCN, HBK3, HBW3⟩ := hrel
        clear HBK HBW
        have hCb : 0 ≤ Cn ∧ Cn ≤ 4 := by
          have := tmCnt_bd bs j
          rw [HCN.out] at this
          omega
        obtain ⟨hC0, hC4⟩ := hCb
        by_cases hj4 : j < 4
        · have hjz : (j : Int) < 4 := by omega
          have hj0 : (0 : Int) ≤ (j : Int) := Int.natCast_nonneg _
          have hz := HBK3.out.cell j hj4
          obtain ⟨bj, hbj⟩ : ∃ b, b = bs.getD j false := ⟨_, rfl⟩
          have hcn : tmCnt bs (j + 1) = if bj = true then Cn + 1 else Cn := by simp only [tmCnt]; rw [HCN.out, ← hbj]
          rw [← hbj] at hz
          have HCN2 := Aside0.mk hcn
          have HJ4 := Aside0.mk hj4
          have hjb : decide ((j : Int) < 4) = true := decide_eq_true hjz
          clear hbj hcn hj4
          have hjz' := eq_true hjz
          have hj0' := eq_true hj0
          clear hjz hj0
          cases bj
          all_goals
            go_wp2
            go_roundg (4 - (j + 1))
            case measure => have := HJ4.out; omega
            case rel => exact ⟨j + 1, _, by have := HJ4.out; omega, by omega, rfl, by first | rfl | go_num, ⟨HCN2.out⟩, HBK3, HBW3⟩
        · have hjz : ¬ (j : Int) < 4 := by omega
          have hjb : decide ((j : Int) < 4) = false := decide_eq_false hjz
          have hje : j = 4 := by omega
          subst hje
          have hfin := HFI.out
          rw [HCN.out] at hfin
          clear HFI
          by_cases hle : M ≤ Cn
          · have hleb : decide (M ≤ Cn) = true := decide_eq_true hle
            clear hfin hle
            go_wp2_with (first
              | (go_at_call 15; (with_reducible refine (KAS.out _ HBW3.out).mono ?_); rintro e w8 ⟨v8, rfl, hR8, hB8⟩; have HB8 := Aside0.mk (below_step HBW3.out hB8); clear hR8 hB8)
              | (go_at_call 12; (with_reducible refine (KA.out _).mono ?_); rintro e w9 ⟨rfl, hB9⟩; have HB9 := Aside0.mk (below_step HB8.out hB9); clear hB9))
            go_ret
            exact ⟨rfl, below_step HB4.out HB9.out⟩
          · have hr3 : r3 = 14 := hfin.resolve_left hle
            subst hr3
            have hleb : decide (M ≤ Cn) = false := decide_eq_false hle
            clear hfin hle
            go_wp2_with (first
              | (go_at_call 15; (with_reducible refine (KAS.out _ HBW3.out).mono ?_); rintro e w8 ⟨v8, rfl, hR8, hB8⟩; have HB8 := Aside0.mk (below_step HBW3.out hB8); clear hR8 hB8)
              | (go_at_call 12; (with_reducible refine (KA.out _).mono ?_); rintro e w9 ⟨rfl, hB9⟩; have HB9 := Aside0.mk (below_step HB8.out hB9); clear hB9))
            go_ret
            exact ⟨rfl, below_step HB4.out HB9.out⟩


theorem railplanlaw20_PlatformTooMany.walk (P : railplanlaw20_PlatformTooMany.Pure) (a0 : Int) (a1 : Option Addr) (len1 cap1 : Nat) (z1 : List Int) (a2 : Int) (w : World) (w0 : (Lit.int .i64 a0).wf = true) (w1 : (a1 = none ∧ len1 = 0 ∧ cap1 = 0 ∧ z1 = []) ∨ ∃ x, a1 = some x ∧ len1 ≤ cap1 ∧ cap1 ≤ maxLen ∧ z1.length = cap1 ∧ (∀ i, i < z1.length → w.cell? (x.add i) = some (.int .i64 (z1.getD i 0))) ∧ ∀ n ∈ z1, (Lit.int .i64 n).wf = true) (y1 : len1 * 8 ≤ 140737488351232) (w2 : (Lit.int .i64 a2).wf = true) :
    Calls Try.prog 5 #[.int .i64 a0, .slice a1 len1 cap1, .int .i64 a2] w fun e w' => e = .returned (.bool true) ∧ Below w.heap.size w w' := by
  obtain ⟨l1, rfl, hr1, hm1, hw1, hc1⟩ := ReadsInt.ofRowC w1
  exact railplanlaw20_PlatformTooMany.main P a0 _ _ l1 a2 w w0 (Kd.C_of_reads (d := (0 : Int)) (h1 := fun _ => rfl) hr1) hc1 y1 hw1 w2

end Go.Proofs.Ytdgdjbehddeepaa.PAll
