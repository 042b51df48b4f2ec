/- What calls of the Go functions below do, each under the premises that its theorem states. Laid by a program of the claimant, which drives the kit's print; some texts are written by hand. -/
import Derived.Test.YtjbemmngnigaiaaPAllx0
import Derived.Test.YtjbemmngnigaiaaPAllxf11
import Derived.Test.YtjbemmngnigaiaaPAllxf12
import Derived.Test.YtjbemmngnigaiaaPAllxf16
import Derived.Test.YtjbemmngnigaiaaPAllxf17
import Derived.Test.YtjbemmngnigaiaaPAllxf18
import Derived.Test.YtjbemmngnigaiaaPAllxf9
namespace Go.Proofs.Ytjbemmngnigaiaa.PAll
open Go.RowKit Go.Proofs.YtjbemmngnigaiaaW.PrintWords Go.Proofs.YtjbemmngnigaiaaW.PrintLast Go.Proofs.YtjbemmngnigaiaaW.PrintMore
attribute [local go_sem] max2_int min2_int max_two min_two max_three min_three max_four min_four   -- for this text's walks alone
set_option linter.unusedVariables false
set_option linter.unusedSimpArgs false

/-! ### railplanlaw19_OccupancyConflictIsCommon: function 5 -/
def railplanlaw19_OccupancyConflictIsCommon.f (a0 : Int) (l1 : List Int) : Option Bool := some true
attribute [local go_sem] run_equalIn_arr2 eqg2
def hits (c : List (Int × Int)) (j i : Nat) : Nat → Bool
  | 0 => false
  | n + 1 => hits c j i n || ((c.getD n (0, 0)).1 == (j : Int) && (c.getD n (0, 0)).2 == (i : Int))
def railplanlaw19_OccupancyConflictIsCommon.Pure : Prop := ∀ (a0 : Int) (l1 : List Int), l1.length * 8 ≤ 140737488351232 → ∃ (k : Nat) (p : Int) (u : List S23) (c : List (Int × Int)), railplankeep_Pick.f a0 30 = some p ∧ 0 ≤ p ∧ p < 30 ∧ railplanlaw19_some.f k l1 = some u ∧ u.length ≤ 100 ∧ c.length ≤ 4611686018427387904 ∧
  occupancy_Conflicts.f k (2 + p) (numb u.length u) = some c ∧ railplanlaw19_awake.f k = some true ∧
  ∀ i, i < u.length → ∀ j, j < i → ∃ (m0 m1 : Nat → Int) (cm : Nat → Bool), cm 0 = false ∧
    (∀ s : Nat, (s : Int) < 2 + p → railplanref1_Mod.f (wrap64 ((s : Int) - (rd_T23 (numb u.length u) i).f2)) (2 + p) = some (m0 s) ∧ railplanref1_Mod.f (wrap64 ((s : Int) - (rd_T23 (numb u.length u) j).f2)) (2 + p) = some (m1 s) ∧
      cm (s + 1) = (cm s || (decide (m0 s < (rd_T23 (numb u.length u) i).f3) && decide (m1 s < (rd_T23 (numb u.length u) j).f3)))) ∧
    hits c j i c.length = (cm (2 + p).toNat && decide ((rd_T23 (numb u.length u) i).f0 = (rd_T23 (numb u.length u) j).f0))
set_option maxHeartbeats 8000000 in
set_option maxRecDepth 100000 in
theorem railplanlaw19_OccupancyConflictIsCommon.main (P : railplanlaw19_OccupancyConflictIsCommon.Pure) (a0 : Int) (A1 : Option Addr) (c1 : Nat) (l1 : List Int) (w : World) (w0 : (Lit.int .i64 a0).wf = true) (hr1 : Kd.C (Kd.int .i64) w A1 l1.length l1) (hc1 : l1.length ≤ c1) (y1 : l1.length * 8 ≤ 140737488351232) (hw1 : ∀ n ∈ l1, (Lit.int .i64 n).wf = true) :
    Calls Try.prog 5 #[.int .i64 a0, .slice A1 l1.length c1] w fun e w' => e = .returned (.bool true) ∧ Below w.heap.size w w' := by
  obtain ⟨k, p, u, c, hp, hp0, hp1, hv, hul, hcl, hcf, haw, hall⟩ := P a0 l1 y1
  have HR1 := Aside0.mk hr1
  have HC1 := Aside0.mk hc1
  have KP := Aside0.mk (railplankeep_Pick.calls a0 30 p w hp)
  obtain ⟨T, hT⟩ : ∃ T, T = 2 + p := ⟨_, rfl⟩
  have hTw : IntKind.i64.wrap (2 + p) = T := by rw [i64_w, IntWalk.wrap64_in _ (by omega)]; exact hT.symm
  have hT2 : wrap64 (2 + p) = T := by rw [IntWalk.wrap64_in _ (by omega)]; exact hT.symm
  have hT0 : 2 ≤ T := by omega
  have hT1 : T ≤ 31 := by omega
  rw [← hT] at hcf hall
  obtain ⟨v, hv5⟩ : ∃ v, v = numb u.length u := ⟨_, rfl⟩
  have hvl : v.length = u.length := by rw [hv5, numb_length]
  rw [← hv5] at hcf hall
  have KV := Aside0.mk (fun (W : World) (hb : Below w.heap.size w W) => railplanlaw19_some.calls k A1 c1 l1 u W (Kd.C_below HR1.out hb) HC1.out hv)
  have KA := Aside0.mk (fun (W : World) => railplanlaw19_awake.calls k true W haw)
  have KF : ∀ (W : World) (A : Option Addr) (cc : Nat), Kd.C k23 W A v.length v → v.length ≤ cc → Calls Try.prog 7 #[.int .i64 T, .slice A v.length cc] W fun e w' => ∃ v0_ : Value, e = .returned (v0_) ∧ Kd.R kP 28 w' W.heap.size (fun _ => True) v0_ c ∧ Below W.heap.size W w' := fun W A cc hr hc => occupancy_Conflicts.calls k T A cc v c W hr hc hcf
  rw [hvl] at KF
  replace KF := Aside0.mk KF
  have HV5 := Aside0.mk hv5
  have HVL := Aside0.mk hvl
  have HUL := Aside0.mk hul
  have HCL := Aside0.mk hcl
  have HALL := Aside0.mk hall
  have HT0 := Aside0.mk hT0
  have HT1 := Aside0.mk hT1
  clear hr1 hc1 hp hv haw hw1 y1 w0 hp0 hp1 hT P hcf hall hv5 hvl hul hcl hT0 hT1
  have hu23 := Try.underlying23
  go_enter Try.func5, Try.ntmps5
  go_wp2_with (first
    | (go_at_call 12; (with_reducible refine KP.out.mono ?_); rintro e w3 ⟨rfl, ⟨n3, rfl⟩⟩)
    | (go_at_call 15; (with_reducible refine (KV.out _ (pw_below_drewN (Below.refl _ _) _)).mono ?_); rintro e w4 ⟨v4, rfl, hS4, hB4⟩; have HB4 := Aside0.mk (below_step (pw_below_drewN (Below.refl _ _) n3) hB4); have HS4 := Aside0.mk hS4; clear hS4 hB4; obtain ⟨A4, c4, e4, le4, ce4⟩ := Kd.R_reads HS4.out; subst e4; clear le4 ce4))
  have HN0 : Aside0 (Kd.R k23 23 w4 w.heap.size (fun _ => True) (.slice A4 u.length c4) (numb 0 u)) := HS4
  clear HS4
  go_loopg [21] u.length (fun g v21 w' => ∃ n : Nat, n ≤ u.length ∧ u.length - n ≤ g ∧ v21 = .int .i64 (n : Int) ∧ Aside0 (Kd.R k23 23 w' w.heap.size (fun _ => True) (.slice A4 u.length c4) (numb n u)) ∧ Aside0 (Below w.heap.size w w'))
  case atStart => exact ⟨0, Nat.zero_le _, by omega, rfl, HN0, HB4⟩
  case round =>
    clear HN0 HB4
    obtain ⟨n, hn, hg, rfl, HR, HBW⟩ := hrel
    by_cases hlt : n < u.length
    · obtain ⟨go, co, eo, hb0, _, _, _⟩ := Kd.R_form HR.out (by rw [numb_length]; omega)
      injection eo with eo eo1 eo2
      clear eo1
      subst eo
      subst eo2
      obtain ⟨hR', ⟨uo, hco⟩, hfo, hbo⟩ := store_train HR.out n hlt (n : Int)
      have HR' := Aside0.mk hR'
      have HBO := Aside0.mk hbo
      have HLT := Aside0.mk hlt
      have hltz : (n : Int) < (u.length : Int) := Int.ofNat_lt.2 hlt
      have h0z : (0 : Int) ≤ (n : Int) := Int.natCast_nonneg _
      have hltz' := eq_true hltz
      have h0z' := eq_true h0z
      have hlb : decide ((n : Int) < (u.length : Int)) = true := decide_eq_true hltz
      clear hR' hltz h0z hlt hb0 hbo
      go_wp2
      go_roundg (u.length - (n + 1))
      case measure => have := HLT.out; omega
      case rel => exact ⟨n + 1, by have := HLT.out; omega, by omega, by have h1 := HUL.out; have h2 := HLT.out; rw [IntWalk.wrap64_in _ (by omega)]; rfl, HR', ⟨below_set HBW.out HBO.out⟩⟩
    · have hlb : decide ((n : Int) < (u.length : Int)) = false := decide_eq_false (by omega)
      have hne : n = u.length := by omega
      subst hne
      rw [← HV5.out] at HR
      obtain ⟨hvl2, hle4, hC4⟩ := Kd.R_reads' HR.out
      rw [← hvl2] at hC4
      have HC4 := Aside0.mk hC4
      have HL4 := Aside0.mk hle4
      clear hvl2 hle4 hC4
      go_wp2_with (go_at_call 7; (with_reducible refine (KF.out _ _ _ HC4.out HL4.out).mono ?_); rintro e w7 ⟨v7, rfl, hR7, hB7⟩; obtain ⟨A7, c7, e7, hl7, hC7⟩ := Kd.R_reads hR7; subst e7; have HC7 := Aside0.mk hC7; have HU7 := Aside0.mk (Kd.C_below HC4.out hB7); have HB7 := Aside0.mk (below_step HBW.out hB7); clear hR7 hl7 hC7 hB7 HC4 HR HBW)
      have HBZ := Aside0.mk (Below.refl w7.heap.size w7)
      clear hn hg hlt hlb
      go_loopg [35] u.length (fun g v35 w' => ∃ i : Nat, i ≤ u.length ∧ u.length - i ≤ g ∧ v35 = .int .i64 (i : Int) ∧ Aside0 (Below w7.heap.size w7 w'))
      case atStart => exact ⟨0, Nat.zero_le _, by omega, rfl, HBZ⟩
      case round =>
        clear HBZ
        obtain ⟨i, hi, hg, rfl, HBI⟩ := hrel
        by_cases hlt : i < u.length
        · have HLT := Aside0.mk hlt
          have hltz : (i : Int) < (u.length : Int) := Int.ofNat_lt.2 hlt
          have h0z : (0 : Int) ≤ (i : Int) := Int.natCast_nonneg _
          have hlb : decide ((i : Int) < (u.length : Int)) = true := decide_eq_true hltz
          have hln : decide (i < u.length) = true := decide_eq_true hlt
          obtain ⟨ad, eA, x0, x1, x2, x3, x4⟩ := at_T23 HU7.out (i : Int) h0z hltz
          subst eA
          rw [Int.toNat_natCast] at x0 x1 x2 x3 x4
          obtain ⟨y, hye⟩ : ∃ y, y = rd_T23 v (i : Int) := ⟨_, rfl⟩
          rw [← hye] at x0 x1 x2 x3 x4
          have HYE := Aside0.mk hye
          have SI := Aside0.mk (fun (W : World) (hb : Below w7.heap.size w7 W) => show W.cell? (ad.add (i * 5)) = some (.int .i64 y.f0) ∧ W.cell? ⟨(ad.add (i * 5)).block, (ad.add (i * 5)).off + 2, none⟩ = some (.int .i64 y.f2) ∧ W.cell? ⟨(ad.add (i * 5)).block, (ad.add (i * 5)).off + 3, none⟩ = some (.int .i64 y.f3) from ⟨cell_bo hb x0, cell_bo hb x2, cell_bo hb x3⟩)
          have HZ := Aside0.mk (⟨h0z, hltz⟩ : (0 : Int) ≤ (i : Int) ∧ (i : Int) < (u.length : Int))
          clear x0 x1 x2 x3 x4 hye hlt h0z hltz
          go_wp2
          go_loopg [9] i (fun g v9 w' => ∃ j : Nat, j ≤ i ∧ i - j ≤ g ∧ v9 = .int .i64 (j : Int) ∧ Aside0 (Below w7.heap.size w7 w'))
          case atStart => exact ⟨0, Nat.zero_le _, by omega, rfl, HBI⟩
          case round =>
            clear HBI
            obtain ⟨j, hj, hgj, rfl, HBJ⟩ := hrel
            by_cases hjt : j < i
            · have HJT := Aside0.mk hjt
              have hlt := HLT.out
              have hjtz : (j : Int) < (u.length : Int) := by omega
              have hj0 : (0 : Int) ≤ (j : Int) := Int.natCast_nonneg _
              have hjb : decide ((j : Int) < (i : Int)) = true := decide_eq_true (by omega)
              have hjn : decide (j < i) = true := decide_eq_true hjt
              obtain ⟨m0, m1, cm, hcm0, hst, hhit⟩ := HALL.out i hlt j hjt
              obtain ⟨ad', eA, z0, z1, z2, z3, z4⟩ := at_T23 HU7.out (j : Int) hj0 hjtz
              cases eA
              rw [Int.toNat_natCast] at z0 z1 z2 z3 z4
              obtain ⟨z, hze⟩ : ∃ z, z = rd_T23 v (j : Int) := ⟨_, rfl⟩
              rw [← hze] at z0 z1 z2 z3 z4 hst hhit
              rw [← HYE.out] at hst hhit
              have SJ := Aside0.mk (fun (W : World) (hb : Below w7.heap.size w7 W) => show W.cell? (ad.add (j * 5)) = some (.int .i64 z.f0) ∧ W.cell? ⟨(ad.add (j * 5)).block, (ad.add (j * 5)).off + 2, none⟩ = some (.int .i64 z.f2) ∧ W.cell? ⟨(ad.add (j * 5)).block, (ad.add (j * 5)).off + 3, none⟩ = some (.int .i64 z.f3) from ⟨cell_bo hb z0, cell_bo hb z2, cell_bo hb z3⟩)
              have HM := Aside0.mk hst
              have HCM := Aside0.mk hcm0
              have HHIT := Aside0.mk hhit
              have HZJ := Aside0.mk (⟨hj0, hjtz⟩ : (0 : Int) ≤ (j : Int) ∧ (j : Int) < (u.length : Int))
              clear z0 z1 z2 z3 z4 hze hst hcm0 hhit hjt hlt hj0 hjtz
              go_wp2
              have HBJ2 := HBJ
              go_loopg [10, 11] T.toNat (fun g v10 v11 w' => ∃ (s : Nat) (b : Bool), (s : Int) ≤ T ∧ T.toNat - s ≤ g ∧ v10 = .bool b ∧ v11 = .int .i64 (s : Int) ∧ Aside0 (cm s = b) ∧ Aside0 (Below w7.heap.size w7 w'))
              case atStart => exact ⟨0, false, by have := HT0.out; omega, by omega, rfl, rfl, HCM, HBJ⟩
              case round =>
                clear HBJ HBJ2
                obtain ⟨s, b, hs, hg, rfl, rfl, HC, HBW⟩ := hrel
                by_cases hst : (s : Int) < T
                · have hltb : decide ((s : Int) < T) = true := decide_eq_true hst
                  obtain ⟨hm0, hm1, hcm⟩ := HM.out s hst
                  have KM0 := Aside0.mk (fun (W : World) => railplanref1_Mod.calls _ _ _ W hm0)
                  have KM1 := Aside0.mk (fun (W : World) => railplanref1_Mod.calls _ _ _ W hm1)
                  rw [HC.out] at hcm
                  have HCM1 := Aside0.mk hcm
                  have HST := Aside0.mk hst
                  have hT1 := HT1.out
                  clear hm0 hm1 hcm hst
                  cases b with
                  | true =>
                    go_wp2
                    go_quiet (fail)
                    go_wp2
                    go_roundg (T.toNat - (s + 1))
                    case measure => have := HST.out; omega
                    case rel => exact ⟨s + 1, true, by have := HST.out; omega, by omega, rfl, by first | rfl | go_num, ⟨by rw [HCM1.out]; rfl⟩, ⟨pw_below_drewN HBW.out _⟩⟩
                  | false =>
                    obtain ⟨e0, he0⟩ : ∃ e, e = wrap64 ((s : Int) - y.f2) := ⟨_, rfl⟩
                    obtain ⟨e1, he1⟩ : ∃ e, e = wrap64 ((s : Int) - z.f2) := ⟨_, rfl⟩
                    obtain ⟨n0, hn0⟩ : ∃ n, n = m0 s := ⟨_, rfl⟩
                    obtain ⟨n1, hn1⟩ : ∃ n, n = m1 s := ⟨_, rfl⟩
                    rw [← he0, ← hn0] at KM0
                    rw [← he1, ← hn1] at KM1
                    rw [← hn0, ← hn1] at HCM1
                    have hw0 : IntKind.i64.wrap ((s : Int) - y.f2) = e0 := by rw [i64_w, he0]
                    have hw1 : IntKind.i64.wrap ((s : Int) - z.f2) = e1 := by rw [i64_w, he1]
                    clear he0 he1 hn0 hn1
                    obtain ⟨bA, hbA⟩ : ∃ b, decide (n0 < y.f3) = b := ⟨_, rfl⟩
                    obtain ⟨bB, hbB⟩ : ∃ b, decide (n1 < z.f3) = b := ⟨_, rfl⟩
                    rw [hbA, hbB] at HCM1
                    obtain ⟨hx0, hx1, hx2⟩ := SI.out wr HBW.out
                    obtain ⟨hz0, hz1, hz2⟩ := SJ.out wr HBW.out
                    have hi0 := eq_true HZ.out.1
                    have hi1 := eq_true HZ.out.2
                    have hj0 := eq_true HZJ.out.1
                    have hj1 := eq_true HZJ.out.2
                    cases bA <;> cases bB
                    all_goals
                      go_wp2
                      repeat (go_quiet (first | (go_at_call 16; first | (with_reducible refine (KM0.out _).mono ?_) | (with_reducible refine (KM1.out _).mono ?_)); rintro e w' ⟨rfl, ⟨nd, rfl⟩⟩; (try first | exact ⟨rfl, _, World.drewN_drewN _ _ _⟩ | exact ⟨rfl, _, Eq.trans (World.drewN_drewN _ _ _) (congrArg (World.drewN _) (Nat.add_assoc _ _ _))⟩)))
                      clear hw0 hw1 hbA hbB hi0 hi1 hj0 hj1
                      go_wp2
                      go_roundg (T.toNat - (s + 1))
                      case measure => have := HST.out; omega
                      case rel => exact ⟨s + 1, _, by have := HST.out; omega, by omega, rfl, by first | rfl | go_num, ⟨by rw [HCM1.out]; rfl⟩, ⟨pw_below_drewN HBW.out _⟩⟩
                · have hltb : decide ((s : Int) < T) = false := decide_eq_false hst
                  have hsT : s = T.toNat := by omega
                  subst hsT
                  have hhit := HHIT.out
                  rw [HC.out] at hhit
                  have HHIT2 := Aside0.mk hhit
                  clear hhit hs hg
                  go_wp2
                  have HHA : Aside0 (hits c j i 0 = false) := ⟨rfl⟩
                  go_loopg [12, 85] c.length (fun g v12 v85 w' => ∃ (n : Nat) (bb : Bool), n ≤ c.length ∧ c.length - n ≤ g ∧ v12 = .bool bb ∧ v85 = .int .i64 (n : Int) ∧ Aside0 (hits c j i n = bb) ∧ Aside0 (Below w7.heap.size w7 w'))
                  case atStart => exact ⟨0, false, Nat.zero_le _, by omega, rfl, rfl, HHA, HBW⟩
                  case round =>
                    clear HBW HHA
                    obtain ⟨n, bb, hn, hg, rfl, rfl, HH, HBW⟩ := hrel
                    by_cases hnt : n < c.length
                    · have HNT := Aside0.mk hnt
                      have hnn : decide (n < c.length) = true := decide_eq_true hnt
                      have hnz : (n : Int) < (c.length : Int) := Int.ofNat_lt.2 hnt
                      have hn0 : (0 : Int) ≤ (n : Int) := Int.natCast_nonneg _
                      have hnb : decide ((n : Int) < (c.length : Int)) = true := decide_eq_true hnz
                      obtain ⟨ad7, eA, q0, q1⟩ := at_kP (Kd.C_below HC7.out HBW.out) (n : Int) hn0 hnz
                      subst eA
                      rw [Int.toNat_natCast] at q0 q1
                      obtain ⟨pr, hpr⟩ : ∃ pr, pr = c.getD n (0, 0) := ⟨_, rfl⟩
                      rw [← hpr] at q0 q1
                      have HS : Aside0 (hits c j i (n + 1) = (bb || (pr.1 == (j : Int) && pr.2 == (i : Int)))) := ⟨by rw [hits, HH.out, hpr]⟩
                      obtain ⟨pr0, pr1⟩ := pr
                      dsimp only at q0 q1
                      have hu28 := Try.underlying28
                      have hnz' := eq_true hnz
                      have hn0' := eq_true hn0
                      clear hpr hnz hn0 hnt
                      cases bb with
                      | true =>
                        go_wp2
                        go_roundg (c.length - (n + 1))
                        case measure => have := HNT.out; omega
                        case rel => exact ⟨n + 1, true, by have := HNT.out; omega, by omega, rfl, by have h1 := HCL.out; have h2 := HNT.out; rw [IntWalk.wrap64_in _ (by omega)]; rfl, ⟨by rw [HS.out]; rfl⟩, HBW⟩
                      | false =>
                        go_wp2
                        go_roundg (c.length - (n + 1))
                        case measure => have := HNT.out; omega
                        case rel => exact ⟨n + 1, _, by have := HNT.out; omega, by omega, rfl, by have h1 := HCL.out; have h2 := HNT.out; rw [IntWalk.wrap64_in _ (by omega)]; rfl, ⟨by rw [HS.out]; rfl⟩, HBW⟩
                    · have hnn : decide (n < c.length) = false := decide_eq_false hnt
                      have hnb : decide ((n : Int) < (c.length : Int)) = false := decide_eq_false (by omega)
                      have hne : n = c.length := by omega
                      subst hne
                      have hhh := HH.out
                      rw [HHIT2.out] at hhh
                      obtain ⟨hx0, _, _⟩ := SI.out wr HBW.out
                      obtain ⟨hz0, _, _⟩ := SJ.out wr HBW.out
                      have hi0 := eq_true HZ.out.1
                      have hi1 := eq_true HZ.out.2
                      have hj0 := eq_true HZJ.out.1
                      have hj1 := eq_true HZJ.out.2
                      cases b with
                      | false =>
                        obtain rfl : false = bb := hhh
                        clear hn hg hnt
                        go_wp2
                        go_quiet (fail)
                        go_wp2
                        go_roundg (i - (j + 1))
                        case measure => have := HJT.out; omega
                        case rel => exact ⟨j + 1, by have := HJT.out; omega, by omega, by have h1 := HUL.out; have h2 := HLT.out; have h3 := HJT.out; rw [IntWalk.wrap64_in _ (by omega)]; rfl, ⟨pw_below_drewN HBW.out _⟩⟩
                      | true =>
                        rw [Bool.true_and] at hhh
                        clear hn hg hnt
                        by_cases he : y.f0 = z.f0
                        · rw [decide_eq_true he] at hhh
                          obtain rfl : true = bb := hhh
                          have heb : (y.f0 == z.f0) = true := beq_iff_eq.mpr he
                          have hed : decide (y.f0 = z.f0) = true := decide_eq_true he
                          clear he
                          go_wp2
                          go_quiet (fail)
                          go_wp2
                          go_roundg (i - (j + 1))
                          case measure => have := HJT.out; omega
                          case rel => exact ⟨j + 1, by have := HJT.out; omega, by omega, by have h1 := HUL.out; have h2 := HLT.out; have h3 := HJT.out; rw [IntWalk.wrap64_in _ (by omega)]; rfl, ⟨pw_below_drewN HBW.out _⟩⟩
                        · rw [decide_eq_false he] at hhh
                          obtain rfl : false = bb := hhh
                          have heb : (y.f0 == z.f0) = false := beq_eq_false_iff_ne.mpr he
                          have hed : decide (y.f0 = z.f0) = false := decide_eq_false he
                          clear he
                          go_wp2
                          go_quiet (fail)
                          go_wp2
                          go_roundg (i - (j + 1))
                          case measure => have := HJT.out; omega
                          case rel => exact ⟨j + 1, by have := HJT.out; omega, by omega, by have h1 := HUL.out; have h2 := HLT.out; have h3 := HJT.out; rw [IntWalk.wrap64_in _ (by omega)]; rfl, ⟨pw_below_drewN HBW.out _⟩⟩
            · have hjb : decide ((j : Int) < (i : Int)) = false := decide_eq_false (by omega)
              have hjn : decide (j < i) = false := decide_eq_false hjt
              go_wp2
              go_roundg (u.length - (i + 1))
              case measure => have := HLT.out; omega
              case rel => exact ⟨i + 1, by have := HLT.out; omega, by omega, by have h1 := HUL.out; have h2 := HLT.out; rw [IntWalk.wrap64_in _ (by omega)]; rfl, HBJ⟩
        · have hlb : decide ((i : Int) < (u.length : Int)) = false := decide_eq_false (by omega)
          have hln : decide (i < u.length) = false := decide_eq_false hlt
          clear hlt
          go_wp2_with (go_at_call 13; (with_reducible refine (KA.out _).mono ?_); rintro e w9 ⟨rfl, hd9⟩)
          go_ret
          exact ⟨rfl, below_step (below_step HB7.out HBI.out) hd9⟩

theorem railplanlaw19_OccupancyConflictIsCommon.walk (P : railplanlaw19_OccupancyConflictIsCommon.Pure) (a0 : Int) (a1 : Option Addr) (len1 cap1 : Nat) (z1 : List Int) (w : World) (w0 : (Lit.int .i64 a0).wf = true) (w1 : (a1 = none ∧ len1 = 0 ∧ cap1 = 0 ∧ z1 = []) ∨ ∃ x, a1 = some x ∧ len1 ≤ cap1 ∧ cap1 ≤ maxLen ∧ z1.length = cap1 ∧ (∀ i, i < z1.length → w.cell? (x.add i) = some (.int .i64 (z1.getD i 0))) ∧ ∀ n ∈ z1, (Lit.int .i64 n).wf = true) (y1 : len1 * 8 ≤ 140737488351232) :
    Calls Try.prog 5 #[.int .i64 a0, .slice a1 len1 cap1] w fun e w' => e = .returned (.bool true) ∧ Below w.heap.size w w' := by
  obtain ⟨l1, rfl, hr1, hm1, hw1, hc1⟩ := ReadsInt.ofRowC w1
  exact railplanlaw19_OccupancyConflictIsCommon.main P a0 _ _ l1 w w0 (Kd.C_of_reads (d := (0 : Int)) (h1 := fun _ => rfl) hr1) hc1 y1 hw1

end Go.Proofs.Ytjbemmngnigaiaa.PAll
