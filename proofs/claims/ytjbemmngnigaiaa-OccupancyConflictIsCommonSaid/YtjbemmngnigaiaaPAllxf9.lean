/- What calls of the Go functions below do, each under the premises that its theorem states. Laid by a program of the claimant, which drives the kit's print; some texts are written by hand. -/
import Derived.Test.YtjbemmngnigaiaaPAllx0
import Derived.Test.YtjbemmngnigaiaaPAllxf17
import Derived.Test.YtjbemmngnigaiaaPAllxf18
namespace Go.Proofs.Ytjbemmngnigaiaa.PAll
open Go.RowKit Go.Proofs.YtjbemmngnigaiaaW.PrintWords Go.Proofs.YtjbemmngnigaiaaW.PrintLast Go.Proofs.YtjbemmngnigaiaaW.PrintMore
attribute [local go_sem] max2_int min2_int max_two min_two max_three min_three max_four min_four   -- for this text's walks alone
set_option linter.unusedVariables false
set_option linter.unusedSimpArgs false

def occupancy_Conflicts.f (k : Nat) (t : Int) (l : List S23) : Option (List (Int × Int)) := (occupancy_Valid.f t l).bind fun b => if b = true then cflOut k t l l.length 0 [] else some []
set_option maxHeartbeats 8000000 in
set_option maxRecDepth 100000 in
theorem occupancy_Conflicts.calls (k : Nat) (a0 : Int) (A1 : Option Addr) (c1 : Nat) (l1 : List S23) (r : List (Int × Int)) (w : World) (hr1 : Kd.C k23 w A1 l1.length l1) (hc1 : l1.length ≤ c1) (h : occupancy_Conflicts.f k a0 l1 = some r) :
    Calls Try.prog 7 #[.int .i64 a0, .slice A1 l1.length c1] w fun e w' => ∃ v0_ : Value, e = .returned (v0_) ∧ Kd.R kP 28 w' w.heap.size (fun _ => True) v0_ r ∧ Below w.heap.size w w' := by
  have hl1 := hr1.2.1
  unfold occupancy_Conflicts.f at h
  obtain ⟨b, hb, H⟩ := Option.bind_eq_some_iff.mp h
  have KV := Aside0.mk (fun (W : World) (hb' : Below w.heap.size w W) => occupancy_Valid.calls a0 A1 c1 l1 b W (Kd.C_below hr1 hb') hc1 hb)
  have HR1 := Aside0.mk hr1
  have HL1 := Aside0.mk hl1
  clear hr1 hc1 h hb hl1
  have hu23 := Try.underlying23
  cases b with
  | false =>
    rw [if_neg (by decide)] at H
    obtain rfl := Option.some.inj H
    go_enter Try.func7, Try.ntmps7
    go_wp2_with (go_at_call 17; (with_reducible refine (KV.out _ (Below.refl _ _)).mono ?_); rintro e w' ⟨rfl, hb⟩)
    go_ret
    exact ⟨_, rfl, Kd.R_nil _ _ _ _ _, hb⟩
  | true =>
    rw [if_pos rfl] at H
    have H0 := Aside0.mk H
    clear H
    go_enter Try.func7, Try.ntmps7
    go_wp2_with (go_at_call 17; (with_reducible refine (KV.out _ (Below.refl _ _)).mono ?_); rintro e w1 ⟨rfl, hb⟩; have HB1 := Aside0.mk hb; clear hb)
    have HN1 : Aside0 (Kd.R kP 28 w1 w.heap.size (fun _ => True) (.slice none 0 0) []) := ⟨Kd.R_nil _ _ _ _ _⟩
    go_loopg [5, 15] l1.length (fun g v5 v15 w' => ∃ (i : Nat) (acc : List (Int × Int)), i ≤ l1.length ∧ l1.length - i ≤ g ∧ v15 = .int .i64 (i : Int) ∧ Aside0 (cflOut k a0 l1 (l1.length - i) i acc = some r) ∧ Aside0 (Kd.R kP 28 w' w.heap.size (fun _ => True) v5 acc) ∧ Aside0 (Below w.heap.size w w'))
    case atStart => exact ⟨0, [], Nat.zero_le _, by omega, rfl, H0, HN1, HB1⟩
    case round =>
      clear H0 HN1 HB1
      obtain ⟨i, acc, hi, hg, rfl, HC, HA, HBW⟩ := hrel
      by_cases hlt : i < l1.length
      · have hltz : (i : Int) < (l1.length : Int) := Int.ofNat_lt.2 hlt
        have h0z : (0 : Int) ≤ (i : Int) := Int.natCast_nonneg _
        have hC := HC.out
        rw [show l1.length - i = (l1.length - (i + 1)) + 1 by omega] at hC
        simp only [cflOut] at hC
        obtain ⟨acc1, hin, hout⟩ := Option.bind_eq_some_iff.mp hC
        have HIN := Aside0.mk hin
        have HOUT := Aside0.mk hout
        obtain ⟨ad, eA, x0, x1, x2, x3, x4⟩ := at_T23 (Kd.C_below HR1.out HBW.out) (i : Int) h0z hltz
        cases eA
        rw [Int.toNat_natCast] at x0 x1 x2 x3 x4
        have HLT := Aside0.mk hlt
        clear hC hin hout HC hlt
        have hltz' := eq_true hltz
        have h0z' := eq_true h0z
        have hlb : decide ((i : Int) < (l1.length : Int)) = true := decide_eq_true hltz
        clear hltz h0z
        have ha5 : ∃ a, a = rd_T23 l1 (i : Int) := ⟨_, rfl⟩
        obtain ⟨a, hae⟩ := ha5
        rw [← hae] at x0 x1 x2 x3 x4
        have HAE := Aside0.mk hae
        clear hae
        go_wp2
        clear hltz' h0z' hlb x0 x1 x2 x3 x4
        have HB0 := Aside0.mk (below_alloc HBW.out (.cells #[.int .i64 a.f0, .int .i64 a.f1, .int .i64 a.f2, .int .i64 a.f3, .int .i64 a.f4] 23))
        have HA0 := Aside0.mk (Kd.R_alloc (Kd.R_mono (ok' := fun k => k ≠ wr.heap.size) (Kd.R_bound HA.out) (fun k hk => by have := hk.2; omega)) (.cells #[.int .i64 a.f0, .int .i64 a.f1, .int .i64 a.f2, .int .i64 a.f3, .int .i64 a.f4] 23))
        have HX0 : Aside0 (usBox (wr.alloc (.cells #[.int .i64 a.f0, .int .i64 a.f1, .int .i64 a.f2, .int .i64 a.f3, .int .i64 a.f4] 23)) wr.heap.size a) := ⟨by unfold usBox World.alloc; simp only [Array.getElem?_push_size]⟩
        have HG0 := Aside0.mk (below_size HBW.out)
        generalize wr.alloc (.cells #[.int .i64 a.f0, .int .i64 a.f1, .int .i64 a.f2, .int .i64 a.f3, .int .i64 a.f4] 23) = W0 at HB0 HA0 HX0 ⊢
        generalize wr.heap.size = gb at HA0 HX0 HG0 ⊢
        clear HA HBW
        go_loopg [5, 8] l1.length (fun g v5 v8 w' => ∃ (j : Nat) (acc' : List (Int × Int)), j ≤ l1.length ∧ l1.length - j ≤ g ∧ v8 = .int .i64 (j : Int) ∧ Aside0 (cflIn k a0 l1 i (l1.length - j) j acc' = some acc1) ∧ Aside0 (Kd.R kP 28 w' w.heap.size (fun k => k ≠ gb) v5 acc') ∧ Aside0 (usBox w' gb a) ∧ Aside0 (Below w.heap.size w w'))
        case atStart => exact ⟨i, acc, hi, by omega, rfl, HIN, HA0, HX0, HB0⟩
        case round =>
          clear HIN HA0 HX0 HB0
          obtain ⟨j, acc', hj, hgj, rfl, HC, HA, HX, HBW⟩ := hrel
          by_cases hjt : j < l1.length
          · have hjz : (j : Int) < (l1.length : Int) := Int.ofNat_lt.2 hjt
            have hj0 : (0 : Int) ≤ (j : Int) := Int.natCast_nonneg _
            have hC := HC.out
            rw [show l1.length - j = (l1.length - (j + 1)) + 1 by omega] at hC
            simp only [cflIn] at hC
            obtain ⟨bb, hbb, hC⟩ := Option.bind_eq_some_iff.mp hC
            obtain ⟨ad', eA, y0, y1, y2, y3, y4⟩ := at_T23 (Kd.C_below HR1.out HBW.out) (j : Int) hj0 hjz
            cases eA
            rw [Int.toNat_natCast] at y0 y1 y2 y3 y4
            obtain ⟨b, hbe⟩ : ∃ b, b = rd_T23 l1 (j : Int) := ⟨_, rfl⟩
            rw [← hbe] at y0 y1 y2 y3 y4 hbb
            rw [← HAE.out] at hbb
            clear hbe
            unfold hit at hbb
            have HJT := Aside0.mk hjt
            have HCC := Aside0.mk hC
            have x5 := HX.out.cells
            obtain ⟨x0, x1, x2, x3, x4⟩ := x5
            clear hC HC hjt
            have hjz' := eq_true hjz
            have hj0' := eq_true hj0
            have hjb : decide ((j : Int) < (l1.length : Int)) = true := decide_eq_true hjz
            clear hjz hj0
            by_cases he : a.f0 = b.f0
            · rw [if_pos he] at hbb
              have heb : (a.f0 == b.f0) = true := beq_iff_eq.mpr he
              have hed : decide (a.f0 = b.f0) = true := decide_eq_true he
              have KC := Aside0.mk (fun (W : World) => occupancy_conflict.calls k a0 a.f0 a.f1 a.f2 a.f3 a.f4 b.f0 b.f1 b.f2 b.f3 b.f4 bb W hbb)
              have SB := Aside0.mk (fun (W : World) (hb : Below wr.heap.size wr W) => show W.cell? ⟨gb, 0, none⟩ = some (.int .i64 a.f0) ∧ W.cell? ⟨gb, 1, none⟩ = some (.int .i64 a.f1) ∧ W.cell? ⟨gb, 2, none⟩ = some (.int .i64 a.f2) ∧ W.cell? ⟨gb, 3, none⟩ = some (.int .i64 a.f3) ∧ W.cell? ⟨gb, 4, none⟩ = some (.int .i64 a.f4) ∧ W.cell? (ad.add (j * 5)) = some (.int .i64 b.f0) ∧ W.cell? ⟨(ad.add (j * 5)).block, (ad.add (j * 5)).off + 1, none⟩ = some (.int .i64 b.f1) ∧ W.cell? ⟨(ad.add (j * 5)).block, (ad.add (j * 5)).off + 2, none⟩ = some (.int .i64 b.f2) ∧ W.cell? ⟨(ad.add (j * 5)).block, (ad.add (j * 5)).off + 3, none⟩ = some (.int .i64 b.f3) ∧ W.cell? ⟨(ad.add (j * 5)).block, (ad.add (j * 5)).off + 4, none⟩ = some (.int .i64 b.f4) ∧ Below wr.heap.size wr W from ⟨cell_bo hb x0, cell_bo hb x1, cell_bo hb x2, cell_bo hb x3, cell_bo hb x4, cell_bo hb y0, cell_bo hb y1, cell_bo hb y2, cell_bo hb y3, cell_bo hb y4, hb⟩)
              clear hbb he x0 x1 x2 x3 x4 y0 y1 y2 y3 y4
              cases bb
              all_goals
                go_wp2
                go_region_held3 (fun w' => w'.cell? ⟨gb, 0, none⟩ = some (.int .i64 a.f0) ∧ w'.cell? ⟨gb, 1, none⟩ = some (.int .i64 a.f1) ∧ w'.cell? ⟨gb, 2, none⟩ = some (.int .i64 a.f2) ∧ w'.cell? ⟨gb, 3, none⟩ = some (.int .i64 a.f3) ∧ w'.cell? ⟨gb, 4, none⟩ = some (.int .i64 a.f4) ∧ w'.cell? (ad.add (j * 5)) = some (.int .i64 b.f0) ∧ w'.cell? ⟨(ad.add (j * 5)).block, (ad.add (j * 5)).off + 1, none⟩ = some (.int .i64 b.f1) ∧ w'.cell? ⟨(ad.add (j * 5)).block, (ad.add (j * 5)).off + 2, none⟩ = some (.int .i64 b.f2) ∧ w'.cell? ⟨(ad.add (j * 5)).block, (ad.add (j * 5)).off + 3, none⟩ = some (.int .i64 b.f3) ∧ w'.cell? ⟨(ad.add (j * 5)).block, (ad.add (j * 5)).off + 4, none⟩ = some (.int .i64 b.f4) ∧ Below wr.heap.size wr w')
                  (first | exact SB.out _ (Below.refl _ _) | exact SB.out _ (below_drew (Below.refl _ _)) | exact SB.out _ (by assumption))
                  (first | (go_at_call 18; (with_reducible refine (KC.out _).mono ?_); rintro e w5 ⟨rfl, hd5⟩; have hB5 := below_step (show Below wr.heap.size wr _ from by first | assumption | exact below_drew (Below.refl _ _)) hd5))
                rename_i hHeld
                obtain ⟨_, _, _, _, _, _, _, _, _, _, hBZ⟩ := hHeld
                clear SB KC
              · go_wp2
                go_roundg (l1.length - (j + 1))
                case measure => have := HJT.out; omega
                case rel => exact ⟨j + 1, acc', by have := HJT.out; omega, by omega, by have h1 := HL1.out; have h2 := HJT.out; rw [IntWalk.wrap64_in _ (by omega)]; rfl, ⟨by have := HCC.out; rwa [if_neg (by decide)] at this⟩, ⟨Kd.R_below HA.out hBZ⟩, ⟨HX.out.below hBZ⟩, ⟨below_step HBW.out hBZ⟩⟩
              · have hC := HCC.out
                rw [if_pos trivial] at hC
                split at hC
                · rename_i hcap
                  have HCN := Aside0.mk hC
                  have HBN := Aside0.mk (below_step HBW.out hBZ)
                  have HAN := Aside0.mk (Kd.R_below HA.out hBZ)
                  have HXN := Aside0.mk (HX.out.below hBZ)
                  clear hC HCC hBZ
                  have hb16 : (acc'.length + 1) * 16 ≤ 140737488355328 := by omega
                  have hgw : w.heap.size ≤ wr.heap.size := below_size HBW.out
                  clear HBW HX HA
                  go_wp2_with (first
                    | ((with_reducible refine gate_dst (N := 49) rfl ?_); go_loud (refine Kd.R_append kP (w0 := w) w.heap.size rfl (.tmp 44) (.tmp 48) 25 28 (.agg #[.int .i64 0, .int .i64 0]) 16 rfl Try.underlying25 (by kernel_rfl) rfl (by decide) (by omega) u5 acc' ((i : Int), (j : Int)) [.int .i64 (i : Int), .int .i64 (j : Int)] (fun k => k ≠ gb) (fun _ => False) rfl rfl ?aP (fun _ hk => hk.elim) ?aF HAN.out HBN.out (below_size HBN.out) hb16 ?_); (case aP => exact kP_mk _ _ _ _ _); (case aF => exact (fun k hk => by have := blk_lt HXN.out; omega)); intro v7 w7 hR7 hB7 hg7 hat7))
                  have HX7 := Aside0.mk (HXN.out.grown hg7 (fun he => HAN.out.1 gb he.symm rfl))
                  have HR7 := Aside0.mk hR7
                  have HB7 := Aside0.mk hB7
                  clear HXN HAN HBN hg7 hat7 hR7 hB7 hb16 hgw
                  go_roundg (l1.length - (j + 1))
                  case measure => have := HJT.out; omega
                  case rel => exact ⟨j + 1, _, by have := HJT.out; omega, by omega, by have h1 := HL1.out; have h2 := HJT.out; rw [IntWalk.wrap64_in _ (by omega)]; rfl, HCN, HR7, HX7, HB7⟩
                · cases hC
            · rw [if_neg he] at hbb
              obtain rfl := Option.some.inj hbb
              have heb : (a.f0 == b.f0) = false := beq_eq_false_iff_ne.mpr he
              have hed : decide (a.f0 = b.f0) = false := decide_eq_false he
              clear hbb he
              go_wp2
              go_quiet (fail)
              clear x0 x1 x2 x3 x4 y0 y1 y2 y3 y4
              go_wp2
              go_roundg (l1.length - (j + 1))
              case measure => have := HJT.out; omega
              case rel => exact ⟨j + 1, acc', by have := HJT.out; omega, by omega, by have h1 := HL1.out; have h2 := HJT.out; rw [IntWalk.wrap64_in _ (by omega)]; rfl, ⟨by have := HCC.out; rwa [if_neg (by decide)] at this⟩, ⟨Kd.R_drewN HA.out _⟩, ⟨HX.out.below (pw_below_drewN (Below.refl _ _) _)⟩, ⟨pw_below_drewN HBW.out _⟩⟩
          · have hjz : ¬ (j : Int) < (l1.length : Int) := by omega
            have hjb : decide ((j : Int) < (l1.length : Int)) = false := decide_eq_false hjz
            have hje : j = l1.length := by omega
            subst hje
            have hC := HC.out
            rw [Nat.sub_self] at hC
            simp only [cflIn] at hC
            obtain rfl := Option.some.inj hC
            clear HC hC
            go_wp2
            go_roundg (l1.length - (i + 1))
            case measure => have := HLT.out; omega
            case rel => exact ⟨i + 1, acc', by have := HLT.out; omega, by omega, by have h1 := HL1.out; have h2 := HLT.out; rw [IntWalk.wrap64_in _ (by omega)]; rfl, HOUT, ⟨Kd.R_mono HA.out (fun _ _ => trivial)⟩, HBW⟩
      · have hltz : ¬ (i : Int) < (l1.length : Int) := by omega
        have hlb : decide ((i : Int) < (l1.length : Int)) = false := decide_eq_false hltz
        have hie : i = l1.length := by omega
        subst hie
        have hC := HC.out
        rw [Nat.sub_self] at hC
        simp only [cflOut] at hC
        obtain rfl := Option.some.inj hC
        clear HC hC
        go_wp2
        go_ret
        exact ⟨_, rfl, HA.out, HBW.out⟩

/-! ### occupancy_Free: function 9 -/
def occupancy_Free.f (k : Nat) (t : Int) (l : List S23) : Option Bool := (occupancy_Valid.f t l).bind fun b => if b = true then (occupancy_Conflicts.f k t l).bind fun c => some (decide (c.length = 0)) else some false
theorem cflIn_mono (k : Nat) (t : Int) (l : List S23) (i : Nat) : ∀ (d j : Nat) (acc : List (Int × Int)), LeO (cflIn k t l i d j acc) (cflIn (k + 1) t l i d j acc)
  | 0, j, acc => LeO.refl _
  | d + 1, j, acc => by
    simp only [cflIn]
    refine LeO.bind ?_ (fun b => ?_)
    · unfold hit
      refine LeO.ite ?_ ?_
      · exact occupancy_conflict.mono _ _ _ _ _ _ _ _ _ _ _ k
      · exact LeO.refl _
    · refine LeO.ite (LeO.ite (cflIn_mono k t l i d (j + 1) _) (LeO.refl _)) (cflIn_mono k t l i d (j + 1) _)
theorem cflOut_mono (k : Nat) (t : Int) (l : List S23) : ∀ (d i : Nat) (acc : List (Int × Int)), LeO (cflOut k t l d i acc) (cflOut (k + 1) t l d i acc)
  | 0, i, acc => LeO.refl _
  | d + 1, i, acc => by
    simp only [cflOut]
    exact LeO.bind (cflIn_mono k t l i _ i acc) (fun _ => cflOut_mono k t l d (i + 1) _)
theorem occupancy_Free.mono : ∀ a0 a1 k, LeO (occupancy_Free.f k a0 a1) (occupancy_Free.f (k + 1) a0 a1) := by
  intro a0 a1 k
  unfold occupancy_Free.f occupancy_Conflicts.f
  refine LeO.bind (LeO.refl _) (fun b => LeO.ite (LeO.bind (LeO.bind (LeO.refl _) (fun b => LeO.ite (cflOut_mono k _ _ _ _ _) (LeO.refl _))) (fun _ => LeO.refl _)) (LeO.refl _))
set_option maxHeartbeats 8000000 in
set_option maxRecDepth 100000 in
theorem occupancy_Free.calls (k : Nat) (a0 : Int) (A1 : Option Addr) (c1 : Nat) (l1 : List S23) (r : Bool) (w : World) (hr1 : Kd.C k23 w A1 l1.length l1) (hc1 : l1.length ≤ c1) (h : occupancy_Free.f k a0 l1 = some r) :
    Calls Try.prog 9 #[.int .i64 a0, .slice A1 l1.length c1] w fun e w' => e = .returned (.bool r) ∧ Below w.heap.size w w' := by
  unfold occupancy_Free.f at h
  obtain ⟨b, hb, H⟩ := Option.bind_eq_some_iff.mp h
  have KV := Aside0.mk (fun (W : World) (hb' : Below w.heap.size w W) => occupancy_Valid.calls a0 A1 c1 l1 b W (Kd.C_below hr1 hb') hc1 hb)
  cases b with
  | false =>
    rw [if_neg (by decide)] at H
    obtain rfl := Option.some.inj H
    clear hr1 hc1 h hb H
    go_enter Try.func9, Try.ntmps9
    go_wp2_with (go_at_call 17; (with_reducible refine (KV.out _ (Below.refl _ _)).mono ?_); rintro e w' ⟨rfl, hb⟩)
    go_ret
    exact ⟨rfl, hb⟩
  | true =>
    rw [if_pos rfl] at H
    obtain ⟨c, hc, H⟩ := Option.bind_eq_some_iff.mp H
    obtain rfl := Option.some.inj H
    have KC := Aside0.mk (fun (W : World) (hb' : Below w.heap.size w W) => occupancy_Conflicts.calls k a0 A1 c1 l1 c W (Kd.C_below hr1 hb') hc1 hc)
    clear hr1 hc1 h hb H hc
    go_enter Try.func9, Try.ntmps9
    go_wp2_with (first
      | (go_at_call 17; (with_reducible refine (KV.out _ (Below.refl _ _)).mono ?_); rintro e w1 ⟨rfl, hb1⟩; have HB1 := Aside0.mk hb1; clear hb1)
      | (go_at_call 7; (with_reducible refine (KC.out _ HB1.out).mono ?_); rintro e w2 ⟨v2, rfl, hR2, hb2⟩; have HB2 := Aside0.mk (below_step HB1.out hb2); obtain ⟨A2, c2, e2⟩ := Kd.R_slice hR2; subst e2; clear hb2 hR2))
    all_goals
      go_ret
      refine ⟨?_, HB2.out⟩
      show Ending.returned (Value.bool ((c.length : Int) == 0)) = .returned (.bool (decide (c.length = 0)))
      have e : ((c.length : Int) == 0) = decide (c.length = 0) := by
        rw [Bool.eq_iff_iff, beq_iff_eq, decide_eq_true_eq]
        omega
      rw [e]

/-! ### railplankeep_Same_int: function 10 -/
def railplankeep_Same_int.l0 : Nat → List Int → List Int → Int → Int → Option (Bool)
  | 0, _, _, _, _ => none
  | k + 1, x0, x1, x12, x13 => if x13 < x12 then (if 0 ≤ x13 then (if x13 < (x0.length : Int) then (if x13 < (x1.length : Int) then (if (rd x0 x13) = (rd x1 x13) then (railplankeep_Same_int.l0 k x0 x1 x12 (wrap64 (x13 + 1))) else (some false)) else (none)) else (none)) else (none)) else (some true)
def railplankeep_Same_int.f (k : Nat) (l0 : List Int) (l1 : List Int) : Option (Bool) := if (l0.length : Int) = (l1.length : Int) then (railplankeep_Same_int.l0 k l0 l1 (l0.length : Int) 0) else (some false)
theorem railplankeep_Same_int.mono_l : ∀ k, (∀ y0 y1 y2 y3, LeO (railplankeep_Same_int.l0 k y0 y1 y2 y3) (railplankeep_Same_int.l0 (k + 1) y0 y1 y2 y3))
  | 0 => fun _ _ _ _ r h => by simp [railplankeep_Same_int.l0] at h
  | k + 1 => by
    have ih0 := railplankeep_Same_int.mono_l k
    · intro y0 y1 y2 y3
      unfold railplankeep_Same_int.l0
      repeat' first
      | (with_reducible exact ih0 _ _ _ _)
      | (with_reducible exact LeO.refl _)
      | (with_reducible exact LeO.none _)
      | (with_reducible refine LeO.ite ?_ ?_)
      | (with_reducible refine LeO.bind ?_ (fun _ => ?_))
      | exact ih0 _ _ _ _
      | exact LeO.none _
      | refine LeO.ite ?_ ?_
      | refine LeO.bind ?_ (fun _ => ?_)
theorem railplankeep_Same_int.mono : ∀ a0 a1 k, LeO (railplankeep_Same_int.f k a0 a1) (railplankeep_Same_int.f (k + 1) a0 a1) := by
  intro a0 a1 k
  have ih0 := railplankeep_Same_int.mono_l k
  unfold railplankeep_Same_int.f
  repeat' first
      | (with_reducible exact ih0 _ _ _ _)
      | (with_reducible exact LeO.refl _)
      | (with_reducible exact LeO.none _)
      | (with_reducible refine LeO.ite ?_ ?_)
      | (with_reducible refine LeO.bind ?_ (fun _ => ?_))
      | exact ih0 _ _ _ _
      | exact LeO.none _
      | refine LeO.ite ?_ ?_
      | refine LeO.bind ?_ (fun _ => ?_)
set_option maxHeartbeats 8000000 in
set_option maxRecDepth 100000 in
theorem railplankeep_Same_int.calls (k : Nat) (A0 : Option Addr) (c0 : Nat) (l0 : List Int) (A1 : Option Addr) (c1 : Nat) (l1 : List Int) (r : Bool) (w : World) (hr0 : Kd.C (Kd.int .i64) w A0 l0.length l0) (hc0 : l0.length ≤ c0) (hr1 : Kd.C (Kd.int .i64) w A1 l1.length l1) (hc1 : l1.length ≤ c1) (h : railplankeep_Same_int.f k l0 l1 = some r) :
    Calls Try.prog 10 #[.slice A0 l0.length c0, .slice A1 l1.length c1] w fun e w' => e = .returned (.bool r) ∧ Drawn0 w w' := by
  have HR0 := Aside0.mk hr0
  have HC0 := Aside0.mk hc0
  clear hr0 hc0
  have HR1 := Aside0.mk hr1
  have HC1 := Aside0.mk hc1
  clear hr1 hc1
  have H : (if (l0.length : Int) = (l1.length : Int) then (railplankeep_Same_int.l0 k l0 l1 (l0.length : Int) 0) else (some false)) = some r := h
  clear h
  by_cases c3 : (l0.length : Int) = (l1.length : Int)
  · rw [if_pos c3] at H
    have c3b0 : ((l0.length : Int) == (l1.length : Int)) = true := beq_iff_eq.mpr c3
    have c3b1 : ((l0.length : Int) != (l1.length : Int)) = false := bne_eq_false_iff_eq.mpr c3
    have c3b2 : (l0.length == l1.length) = true := by first | simpa using c3 | (simp at c3 ⊢; omega)
    clear c3
    have H' := Aside0.mk H
    clear H
    go_enter Try.func10, Try.ntmps10
    go_wp2
    repeat (go_quiet (fail); try go_wp2)
    go_loopg [13] k (fun kq v13 w' => ∃ (x13_1 : Int), v13 = .int .i64 x13_1 ∧ Aside0 (railplankeep_Same_int.l0 kq l0 l1 (l0.length : Int) x13_1 = some r) ∧ Aside0 (kq ≤ k) ∧ Drawn0 w w')
    case atStart => exact ⟨(0), (by first | rfl | (simp; done) | (simp [*]; done)), H', ⟨Nat.le_refl _⟩, by repeat (first | exact Drawn0.refl _ | apply Drawn0.step)⟩
    case round =>
      clear H'
      try clear c1
      try clear p2
      try clear c3
      try clear c3b0
      try clear c3b1
      try clear c3b2
      obtain ⟨x13_1, rfl, HA, HK1, ⟨m1, rfl⟩⟩ := hrel
      cases gk with
      | zero => exact absurd HA.out (by simp [railplankeep_Same_int.l0])
      | succ k1 =>
        have H := HA.out
        clear HA
        simp only [railplankeep_Same_int.l0] at H
        by_cases c4 : x13_1 < (l0.length : Int)
        · rw [if_pos c4] at H
          have c4b0 : decide (x13_1 < (l0.length : Int)) = true := decide_eq_true c4
          clear c4
          by_cases c5 : 0 ≤ x13_1
          · rw [if_pos c5] at H
            have c5b0 : decide (0 ≤ x13_1) = true := decide_eq_true c5
            clear c5
            by_cases c6 : x13_1 < (l0.length : Int)
            · rw [if_pos c6] at H
              have c6b0 : decide (x13_1 < (l0.length : Int)) = true := decide_eq_true c6
              clear c6
              by_cases c7 : x13_1 < (l1.length : Int)
              · rw [if_pos c7] at H
                have c7b0 : decide (x13_1 < (l1.length : Int)) = true := decide_eq_true c7
                clear c7
                by_cases c8 : (rd l0 x13_1) = (rd l1 x13_1)
                · rw [if_pos c8] at H
                  have c8b0 : ((rd l0 x13_1) == (rd l1 x13_1)) = true := beq_iff_eq.mpr c8
                  have c8b1 : ((rd l0 x13_1) != (rd l1 x13_1)) = false := bne_eq_false_iff_eq.mpr c8
                  clear c8
                  have H' := Aside0.mk H
                  clear H
                  have p107 : 0 ≤ (x13_1 : Int) := of_decide_eq_true (by first | (with_reducible assumption) | assumption)
                  have q107 : x13_1 < (l0.length : Int) := of_decide_eq_true (by first | (with_reducible assumption) | assumption)
                  obtain ⟨ad107, e107, hx107_0⟩ := Kd.at_int HR0.out x13_1 p107 q107
                  cases e107
                  replace p107 := eq_true p107
                  replace q107 := eq_true q107
                  have p108 : 0 ≤ (x13_1 : Int) := of_decide_eq_true (by first | (with_reducible assumption) | assumption)
                  have q108 : x13_1 < (l1.length : Int) := of_decide_eq_true (by first | (with_reducible assumption) | assumption)
                  obtain ⟨ad108, e108, hx108_0⟩ := Kd.at_int HR1.out x13_1 p108 q108
                  cases e108
                  replace p108 := eq_true p108
                  replace q108 := eq_true q108
                  go_wp2
                  repeat (go_quiet (fail); try go_wp2)
                  go_roundg k1
                  case measure => have := HK1.out; omega
                  case rel => exact ⟨(wrap64 (x13_1 + 1)), (by first | rfl | (simp; done) | (simp [*]; done)), H', ⟨by have := HK1.out; omega⟩, by repeat (first | exact Drawn0.refl _ | apply Drawn0.step)⟩
                · rw [if_neg c8] at H
                  have c8b0 : ((rd l0 x13_1) == (rd l1 x13_1)) = false := beq_eq_false_iff_ne.mpr c8
                  have c8b1 : ((rd l0 x13_1) != (rd l1 x13_1)) = true := bne_iff_ne.mpr c8
                  obtain rfl := Option.some.inj H
                  have p107 : 0 ≤ (x13_1 : Int) := of_decide_eq_true (by first | (with_reducible assumption) | assumption)
                  have q107 : x13_1 < (l0.length : Int) := of_decide_eq_true (by first | (with_reducible assumption) | assumption)
                  obtain ⟨ad107, e107, hx107_0⟩ := Kd.at_int HR0.out x13_1 p107 q107
                  cases e107
                  replace p107 := eq_true p107
                  replace q107 := eq_true q107
                  have p108 : 0 ≤ (x13_1 : Int) := of_decide_eq_true (by first | (with_reducible assumption) | assumption)
                  have q108 : x13_1 < (l1.length : Int) := of_decide_eq_true (by first | (with_reducible assumption) | assumption)
                  obtain ⟨ad108, e108, hx108_0⟩ := Kd.at_int HR1.out x13_1 p108 q108
                  cases e108
                  replace p108 := eq_true p108
                  replace q108 := eq_true q108
                  go_wp2
                  repeat (go_quiet (fail); try go_wp2)
                  go_ret
                  exact ⟨by first | rfl | (simp; done) | (simp [*]; done), by repeat (first | exact Drawn0.refl _ | apply Drawn0.step)⟩
              · rw [if_neg c7] at H
                exact absurd H (by simp)
            · rw [if_neg c6] at H
              exact absurd H (by simp)
          · rw [if_neg c5] at H
            exact absurd H (by simp)
        · rw [if_neg c4] at H
          have c4b0 : decide (x13_1 < (l0.length : Int)) = false := decide_eq_false c4
          clear c4
          obtain rfl := Option.some.inj H
          go_wp2
          repeat (go_quiet (fail); try go_wp2)
          go_ret
          exact ⟨by first | rfl | (simp; done) | (simp [*]; done), by repeat (first | exact Drawn0.refl _ | apply Drawn0.step)⟩
  · rw [if_neg c3] at H
    have c3b0 : ((l0.length : Int) == (l1.length : Int)) = false := beq_eq_false_iff_ne.mpr c3
    have c3b1 : ((l0.length : Int) != (l1.length : Int)) = true := bne_iff_ne.mpr c3
    have c3b2 : (l0.length == l1.length) = false := by first | simpa using c3 | (simp at c3 ⊢; omega)
    obtain rfl := Option.some.inj H
    go_enter Try.func10, Try.ntmps10
    go_wp2
    repeat (go_quiet (fail); try go_wp2)
    go_ret
    exact ⟨by first | rfl | (simp; done) | (simp [*]; done), by repeat (first | exact Drawn0.refl _ | apply Drawn0.step)⟩

/-! ### arith_Mod: function 19 -/
def arith_Mod.f (a0 : Int) (a1 : Int) : Option (Int) := if a1 < 1 then (some 0) else (if a1 = 0 then (none) else (if (Int.tmod a0 a1) < 0 then (some (wrap64 ((Int.tmod a0 a1) + a1))) else (some (Int.tmod a0 a1))))
set_option maxHeartbeats 8000000 in
set_option maxRecDepth 100000 in
theorem arith_Mod.calls (a0 : Int) (a1 : Int) (r : Int) (w : World) (h : arith_Mod.f a0 a1 = some r) :
    Calls Try.prog 19 #[.int .i64 a0, .int .i64 a1] w fun e w' => e = .returned (.int .i64 r) ∧ Drawn0 w w' := by
  have H : (if a1 < 1 then (some 0) else (if a1 = 0 then (none) else (if (Int.tmod a0 a1) < 0 then (some (wrap64 ((Int.tmod a0 a1) + a1))) else (some (Int.tmod a0 a1))))) = some r := h
  clear h
  by_cases c3 : a1 < 1
  · rw [if_pos c3] at H
    have c3b0 : decide (a1 < 1) = true := decide_eq_true c3
    clear c3
    obtain rfl := Option.some.inj H
    go_enter Try.func19, Try.ntmps19
    go_wp2
    go_ret
    exact ⟨by first | rfl | (simp; done) | (simp [*]; done), by repeat (first | exact Drawn0.refl _ | apply Drawn0.step)⟩
  · rw [if_neg c3] at H
    have c3b0 : decide (a1 < 1) = false := decide_eq_false c3
    clear c3
    by_cases c4 : a1 = 0
    · rw [if_pos c4] at H
      exact absurd H (by simp)
    · rw [if_neg c4] at H
      have c4b0 : (a1 == 0) = false := beq_eq_false_iff_ne.mpr c4
      have c4b1 : (a1 != 0) = true := bne_iff_ne.mpr c4
      by_cases c5 : (Int.tmod a0 a1) < 0
      · rw [if_pos c5] at H
        have c5b0 : decide ((Int.tmod a0 a1) < 0) = true := decide_eq_true c5
        clear c5
        obtain rfl := Option.some.inj H
        go_enter Try.func19, Try.ntmps19
        go_wp2
        go_ret
        exact ⟨by first | rfl | (simp; done) | (simp [*]; done), by repeat (first | exact Drawn0.refl _ | apply Drawn0.step)⟩
      · rw [if_neg c5] at H
        have c5b0 : decide ((Int.tmod a0 a1) < 0) = false := decide_eq_false c5
        clear c5
        obtain rfl := Option.some.inj H
        go_enter Try.func19, Try.ntmps19
        go_wp2
        go_ret
        exact ⟨by first | rfl | (simp; done) | (simp [*]; done), by repeat (first | exact Drawn0.refl _ | apply Drawn0.step)⟩

/-! ### cmp_isNaN_int: function 56 -/
def cmp_isNaN_int.f (a0 : Int) : Option (Bool) := some (a0 != a0)
set_option maxHeartbeats 8000000 in
set_option maxRecDepth 100000 in
theorem cmp_isNaN_int.calls (a0 : Int) (r : Bool) (w : World) (h : cmp_isNaN_int.f a0 = some r) :
    Calls Try.prog 56 #[.int .i64 a0] w fun e w' => e = .returned (.bool r) ∧ Drawn0 w w' := by
  have H : (some (a0 != a0)) = some r := h
  clear h
  obtain rfl := Option.some.inj H
  go_enter Try.func56, Try.ntmps56
  go_wp2
  go_ret
  exact ⟨by first | rfl | (simp; done) | (simp [*]; done), by repeat (first | exact Drawn0.refl _ | apply Drawn0.step)⟩

/-! ### cmp_Less_int: function 44 -/
def cmp_Less_int.f (a0 : Int) (a1 : Int) : Option (Bool) := (cmp_isNaN_int.f a0).bind fun t109 => (if t109 = true then ((cmp_isNaN_int.f a1).bind fun t110 => (if t110 = true then (some (decide (a0 < a1))) else (some true))) else (some (decide (a0 < a1))))
set_option maxHeartbeats 8000000 in
set_option maxRecDepth 100000 in
theorem cmp_Less_int.calls (a0 : Int) (a1 : Int) (r : Bool) (w : World) (h : cmp_Less_int.f a0 a1 = some r) :
    Calls Try.prog 44 #[.int .i64 a0, .int .i64 a1] w fun e w' => e = .returned (.bool r) ∧ Drawn0 w w' := by
  have H : ((cmp_isNaN_int.f a0).bind fun t109 => (if t109 = true then ((cmp_isNaN_int.f a1).bind fun t110 => (if t110 = true then (some (decide (a0 < a1))) else (some true))) else (some (decide (a0 < a1))))) = some r := h
  clear h
  replace H := Option.bind_eq_some_iff.mp H
  obtain ⟨t109, A30, H⟩ := H
  replace H : (if t109 = true then ((cmp_isNaN_int.f a1).bind fun t110 => (if t110 = true then (some (decide (a0 < a1))) else (some true))) else (some (decide (a0 < a1)))) = some r := H
  have A3 := Aside0.mk A30
  clear A30
  by_cases c4 : t109 = true
  · subst c4
    have H1 : ((cmp_isNaN_int.f a1).bind fun t110 => (if t110 = true then (some (decide (a0 < a1))) else (some true))) = some r := by rw [if_pos rfl] at H; exact H
    clear H
    have H := H1
    clear H1
    replace H := Option.bind_eq_some_iff.mp H
    obtain ⟨t110, A50, H⟩ := H
    replace H : (if t110 = true then (some (decide (a0 < a1))) else (some true)) = some r := H
    have A5 := Aside0.mk A50
    clear A50
    by_cases c6 : t110 = true
    · subst c6
      have H1 : (some (decide (a0 < a1))) = some r := by rw [if_pos rfl] at H; exact H
      clear H
      have H := H1
      clear H1
      obtain rfl := Option.some.inj H
      go_enter Try.func44, Try.ntmps44
      go_wp2_with (first | ((with_reducible refine gate_callee (f := 56) rfl ?_); refine goesL_ (some 6) rfl rfl Try.func56 (by kernel_rfl) rfl #[.int .i64 a0] rfl (by (try simp only [List.map_toArray, List.map_cons, List.map_nil]); first | done | rfl | (simp only [List.length_drop, List.length_take]; rfl)) ?_; (with_reducible refine (cmp_isNaN_int.calls a0 true _ A3.out).mono ?_); rintro e w' ⟨rfl, ⟨nd, rfl⟩⟩; refine ⟨_, rfl, ?_⟩) | (go_at_call 56; (with_reducible refine (cmp_isNaN_int.calls a1 true _ A5.out).mono ?_); rintro e w' ⟨rfl, ⟨nd, rfl⟩⟩))
      go_ret
      exact ⟨by first | rfl | (simp; done) | (simp [*]; done), by repeat (first | exact Drawn0.refl _ | apply Drawn0.step)⟩
    · replace c6 := Bool.eq_false_iff.mpr c6
      subst c6
      have H1 : (some true) = some r := by rw [if_neg (show ¬ (false = true) by decide)] at H; exact H
      clear H
      have H := H1
      clear H1
      obtain rfl := Option.some.inj H
      go_enter Try.func44, Try.ntmps44
      go_wp2_with (first | ((with_reducible refine gate_callee (f := 56) rfl ?_); refine goesL_ (some 6) rfl rfl Try.func56 (by kernel_rfl) rfl #[.int .i64 a0] rfl (by (try simp only [List.map_toArray, List.map_cons, List.map_nil]); first | done | rfl | (simp only [List.length_drop, List.length_take]; rfl)) ?_; (with_reducible refine (cmp_isNaN_int.calls a0 true _ A3.out).mono ?_); rintro e w' ⟨rfl, ⟨nd, rfl⟩⟩; refine ⟨_, rfl, ?_⟩) | (go_at_call 56; (with_reducible refine (cmp_isNaN_int.calls a1 false _ A5.out).mono ?_); rintro e w' ⟨rfl, ⟨nd, rfl⟩⟩))
      go_ret
      exact ⟨by first | rfl | (simp; done) | (simp [*]; done), by repeat (first | exact Drawn0.refl _ | apply Drawn0.step)⟩
  · replace c4 := Bool.eq_false_iff.mpr c4
    subst c4
    have H1 : (some (decide (a0 < a1))) = some r := by rw [if_neg (show ¬ (false = true) by decide)] at H; exact H
    clear H
    have H := H1
    clear H1
    obtain rfl := Option.some.inj H
    go_enter Try.func44, Try.ntmps44
    go_wp2_with (first | ((with_reducible refine gate_callee (f := 56) rfl ?_); refine goesL_ (some 6) rfl rfl Try.func56 (by kernel_rfl) rfl #[.int .i64 a0] rfl (by (try simp only [List.map_toArray, List.map_cons, List.map_nil]); first | done | rfl | (simp only [List.length_drop, List.length_take]; rfl)) ?_; (with_reducible refine (cmp_isNaN_int.calls a0 false _ A3.out).mono ?_); rintro e w' ⟨rfl, ⟨nd, rfl⟩⟩; refine ⟨_, rfl, ?_⟩))
    go_ret
    exact ⟨by first | rfl | (simp; done) | (simp [*]; done), by repeat (first | exact Drawn0.refl _ | apply Drawn0.step)⟩

end Go.Proofs.Ytjbemmngnigaiaa.PAll
