/- What calls of the Go functions below do, each under the premises that its theorem states. Laid by a program of the claimant, which drives the kit's print; some texts are written by hand. -/
import Derived.Test.YtdgdjbehddeepaaPAllx0
import Derived.Test.YtdgdjbehddeepaaPAllxf29
import Derived.Test.YtdgdjbehddeepaaPAllxf35
namespace Go.Proofs.Ytdgdjbehddeepaa.PAll
open Go.RowKit Go.Proofs.YtdgdjbehddeepaaW.PrintWords Go.Proofs.YtdgdjbehddeepaaW.PrintLast Go.Proofs.YtdgdjbehddeepaaW.PrintMore
attribute [local go_sem] max2_int min2_int max_two min_two max_three min_three max_four min_four   -- for this text's walks alone
set_option linter.unusedVariables false
set_option linter.unusedSimpArgs false

/-! ### slices_Clone_int_int: function 39 -/
def slices_Clone_int_int.f (l0 : List Int) : Option (List Int) := if l0.length < 17592186044416 then some l0 else none
set_option maxHeartbeats 8000000 in
set_option maxRecDepth 100000 in
theorem slices_Clone_int_int.calls (A0 : Option Addr) (c0 : Nat) (l0 : List Int) (r : List Int) (w : World) (hr0 : Kd.C (Kd.int .i64) w A0 l0.length l0) (hc0 : l0.length ≤ c0) (h : slices_Clone_int_int.f l0 = some r) :
    Calls Try.prog 39 #[.slice A0 l0.length c0] w fun e w' => ∃ v0_ : Value, e = .returned (v0_) ∧ Kd.R (Kd.int .i64) 3 w' w.heap.size (fun _ => True) v0_ r ∧ Below w.heap.size w w' := by
  have hq : l0.length < 17592186044416 ∧ l0 = r := by
    unfold slices_Clone_int_int.f at h
    split at h
    · exact ⟨by assumption, Option.some.inj h⟩
    · cases h
  obtain ⟨hl, rfl⟩ := hq
  have HL := Aside0.mk hl
  clear h hl
  have q22 : ∀ (w : World) (a : Option Addr) (n c n' c' : Nat), (binOp .eql 22 (.slice a n c) (.slice none n' c')).run Try.prog w = .ok (.bool a.isNone) w := fun w a n c n' c' => Lib.run_eql_slice_nil w _ _ a n c n' c' Try.underlying22
  have u22 := Try.underlying22
  have HB := Aside0.mk (Below.refl w.heap.size w)
  have HR0 := Aside0.mk hr0
  have HC0 := Aside0.mk hc0
  clear hr0 hc0
  cases A0 with
  | none =>
    have e0 : l0 = [] := by
      rcases Nat.eq_zero_or_pos l0.length with h0 | h0
      · exact List.length_eq_zero_iff.1 h0
      · obtain ⟨ad, h, _⟩ := HR0.out.2.2 h0
        cases h
    go_enter Try.func39, Try.ntmps39
    go_wp2
    go_ret
    subst e0
    exact ⟨_, rfl, Kd.R_nil _ _ _ _ _, Below.refl _ _⟩
  | some ad =>
    go_enter Try.func39, Try.ntmps39
    go_wp2_with (at_builtin; refine Kd.R_append_rows (Kd.int .i64) (w0 := w) w.heap.size rfl (.tmp 5) (.tmp 6) 22 3 (.int .i64 0) 8 rfl Try.underlying22 info3 rfl (by decide) (by omega) (.slice (some ⟨w.heap.size, 0, none⟩) 0 0) [] l0 (some ad) l0.length c0 (fun _ => True) (fun _ => False) rfl rfl ?aO ?aR (fun _ _ h => h) (fun _ hk => hk.elim) (fun _ _ => trivial) ?aB ?aS ?aL ?_)
    case aO => exact Kd.R_of_own (World.ownsRow_made w #[] 0 (Nat.le_refl _) (Nat.zero_le _) rfl) (fun _ _ => trivial)
    case aR => exact Kd.C_below HR0.out (below_alloc (Below.refl _ _) _)
    case aB => exact below_alloc (Below.refl _ _) _
    case aS => exact below_size (below_alloc (Below.refl _ _) _)
    case aL => have := HL.out; simp only [List.length_nil]; omega
    intro v1 w1 hR hBw _ _
    have HR1 := Aside0.mk hR
    have HB1 := Aside0.mk hBw
    clear hR hBw
    go_wp2
    go_ret
    exact ⟨_, rfl, HR1.out, HB1.out⟩

-- NOT PRINTED: function 31 (platform_search_extend)

/-- The state of a search: its block. -/
def St53 (W : World) (g : Nat) (t : Int) (Av : Option Addr) (n cv : Nat) (lf : Int) (br : Bool) : Prop := W.heap[g]? = some (.cells #[.int .i64 t, .slice Av n cv, .int .i64 lf, .bool br] 53 (0, 0))
theorem St53.cells {W : World} {g : Nat} {t : Int} {Av : Option Addr} {n cv : Nat} {lf : Int} {br : Bool} (h : St53 W g t Av n cv lf br) : W.cell? ⟨g, 0, none⟩ = some (.int .i64 t) ∧ W.cell? ⟨g, 1, none⟩ = some (.slice Av n cv) ∧ W.cell? ⟨g, 2, none⟩ = some (.int .i64 lf) ∧ W.cell? ⟨g, 3, none⟩ = some (.bool br) ∧ W.frozen? ⟨g, 2, none⟩ = false ∧ W.frozen? ⟨g, 3, none⟩ = false :=
  ⟨(blk_cell h 0).trans rfl, (blk_cell h 1).trans rfl, (blk_cell h 2).trans rfl, (blk_cell h 3).trans rfl, blk_frozen h 2, blk_frozen h 3⟩
theorem St53.lf_ {W : World} {g : Nat} {t : Int} {Av : Option Addr} {n cv : Nat} {lf : Int} {br : Bool} (h : St53 W g t Av n cv lf br) (x : Int) : St53 (W.setCell ⟨g, 2, none⟩ (.int .i64 x)) g t Av n cv x br := by simpa [St53] using blk_set h 2 (.int .i64 x)
theorem St53.br_ {W : World} {g : Nat} {t : Int} {Av : Option Addr} {n cv : Nat} {lf : Int} {br : Bool} (h : St53 W g t Av n cv lf br) (x : Bool) : St53 (W.setCell ⟨g, 3, none⟩ (.bool x)) g t Av n cv lf x := by simpa [St53] using blk_set h 3 (.bool x)
theorem St53.below {W W' : World} {g : Nat} {t : Int} {Av : Option Addr} {n cv : Nat} {lf : Int} {br : Bool} (h : St53 W g t Av n cv lf br) (hb : Below W.heap.size W W') : St53 W' g t Av n cv lf br := (hb.block g (blk_lt h)).trans h
mutual
def ext_f : Nat → Int → List S28 → Int → Bool → List Int → Option (List Int × Bool × Int × Bool)
  | 0, _, _, _, _, _ => none
  | k + 1, t, v, lf, br, ch => if ch.length = v.length then some (ch, true, lf, br) else if ch.length < v.length then ext_l k t v lf br ch (rd_T28 v ch.length).f2 0 else none
def ext_l : Nat → Int → List S28 → Int → Bool → List Int → List Int → Int → Option (List Int × Bool × Int × Bool)
  | 0, _, _, _, _, _, _, _ => none
  | k + 1, t, v, lf, br, ch, tr, x => if x < (tr.length : Int) then (if 0 ≤ x then (if lf = 0 then some ([], false, lf, true) else (platform_fits.f k t v ch (rd tr x)).bind fun b => if b = true then (if ch.length < 17592186044415 then (ext_f k t v (wrap64 (lf - 1)) br (ch ++ [rd tr x])).bind fun o => if (o.2.1 || o.2.2.2) = true then some o else ext_l k t v o.2.2.1 o.2.2.2 ch tr (wrap64 (x + 1)) else none) else ext_l k t v (wrap64 (lf - 1)) br ch tr (wrap64 (x + 1))) else none) else some ([], false, lf, br)
end
set_option maxHeartbeats 8000000 in
set_option maxRecDepth 100000 in
theorem ext_calls : ∀ (k g : Nat) (t : Int) (Av : Option Addr) (cv : Nat) (v : List S28) (lf : Int) (br : Bool) (vch : Value) (ch o : List Int) (ok : Bool) (lf' : Int) (br' : Bool) (w0 w : World), St53 w g t Av v.length cv lf br → w0.heap.size ≤ g → Below w0.heap.size w0 w → Kd.C k28 w0 Av v.length v → v.length ≤ cv → Kd.R (Kd.int .i64) 3 w w0.heap.size (fun k => k ≠ g) vch ch → ext_f k t v lf br ch = some (o, ok, lf', br') →
    Calls Try.prog 31 #[.pointer (some ⟨g, 0, none⟩), vch] w fun e w' => ∃ vo, e = .returned (.tuple #[vo, .bool ok]) ∧ St53 w' g t Av v.length cv lf' br' ∧ Kd.R (Kd.int .i64) 3 w' w0.heap.size (fun k => k ≠ g) vo o ∧ Below w0.heap.size w0 w' ∧ KeepBut w w' g none := by
  intro k
  induction k using Nat.strongRecOn with
  | ind k ih =>
  intro g t Av cv v lf br vch ch o ok lf' br' w0 w hSt hg hB hv hcv hch h
  have IH := Aside0.mk ih
  have HW0 := Aside0.mk hg
  have HB := Aside0.mk hB
  have HV := Aside0.mk hv
  have HC1 := Aside0.mk hcv
  have HK := Aside0.mk (KeepBut.refl w g none)
  have HS := Aside0.mk hSt
  have HO := Aside0.mk hch
  obtain ⟨A, c, rfl, hcl, hr⟩ := Kd.R_reads hch
  have HCL := Aside0.mk hcl
  clear ih hg hB hv hcv hch hSt hcl hr
  cases k with
  | zero => simp [ext_f] at h
  | succ k =>
  simp only [ext_f] at h
  obtain ⟨hc0, hc1, hc2, hc3, hf2, hf3⟩ := HS.out.cells
  by_cases e1 : ch.length = v.length
  · rw [if_pos e1] at h
    injection h with h
    obtain ⟨rfl, rfl, rfl, rfl⟩ : ch = o ∧ true = ok ∧ lf = lf' ∧ br = br' := by injection h with h1 h; injection h with h2 h; injection h with h3 h4; exact ⟨h1, h2, h3, h4⟩
    have e1b : ((ch.length : Int) == (v.length : Int)) = true := by rw [e1]; exact beq_self_eq_true _
    have e1c : (ch.length == v.length) = true := by rw [e1]; exact beq_self_eq_true _
    clear e1
    go_enter Try.func31, Try.ntmps31
    go_wp2
    go_ret2
    exact ⟨_, rfl, HS.out, HO.out, HB.out, HK.out⟩
  · rw [if_neg e1] at h
    have e1b : ((ch.length : Int) == (v.length : Int)) = false := by rw [beq_eq_false_iff_ne]; omega
    have e1c : (ch.length == v.length) = false := by rw [beq_eq_false_iff_ne]; exact e1
    by_cases e2 : ch.length < v.length
    · rw [if_pos e2] at h
      have p1 : (0 : Int) ≤ (ch.length : Int) := Int.natCast_nonneg _
      have p2 : (ch.length : Int) < (v.length : Int) := Int.ofNat_lt.2 e2
      obtain ⟨ad, At, ct, e3, hx0, hx1, hx2, hlt, hit⟩ := at_T28 HV.out (ch.length : Int) p1 p2
      cases e3
      simp only [Int.toNat_natCast] at hx0 hx1 hx2
      obtain ⟨tr, htr⟩ : ∃ tr, tr = (rd_T28 v ch.length).f2 := ⟨_, rfl⟩
      rw [← htr] at h hx2 hlt hit
      have q2 := (HB.out.cell (World.block_lt_of_cell? w0 _ hx2)).trans hx2
      have HT := Aside0.mk hit
      have HCT := Aside0.mk hlt
      have H' := Aside0.mk h
      have c10b0 : decide (0 ≤ (ch.length : Int)) = true := decide_eq_true p1
      have c10b1 : decide (0 ≤ ch.length) = true := decide_eq_true (by omega)
      have c11b0 : decide ((ch.length : Int) < (v.length : Int)) = true := decide_eq_true p2
      have c11b1 : decide (ch.length < v.length) = true := decide_eq_true e2
      clear hx0 hx1 hx2 hlt hit h htr e1
      replace e2 := eq_true e2
      replace p1 := eq_true p1
      replace p2 := eq_true p2
      go_enter Try.func31, Try.ntmps31
      go_wp2
      go_loopg [29] k (fun kq v29 w' => ∃ (x lf2 : Int) (br2 : Bool), v29 = .int .i64 x ∧ Aside0 (ext_l kq t v lf2 br2 ch tr x = some (o, ok, lf', br')) ∧ Aside0 (kq ≤ k) ∧ Aside0 (St53 w' g t (some ad) v.length cv lf2 br2) ∧ Aside0 (Kd.R (Kd.int .i64) 3 w' w0.heap.size (fun k => k ≠ g) (.slice A ch.length c) ch) ∧ Aside0 (Below w0.heap.size w0 w') ∧ Aside0 (KeepBut w w' g none))
      case atStart => exact ⟨0, lf, br, rfl, H', ⟨Nat.le_refl _⟩, HS, HO, HB, HK⟩
      case round =>
        clear H' hc0 hc1 hc2 hc3 hf2 hf3 HS HO HB HK
        clear q2 c10b0 c10b1 c11b0 c11b1 e1b e1c e2 p1 p2
        obtain ⟨x, lf2, br2, rfl, HA, HK1, HS, HO, HB, HK⟩ := hrel
        cases gk with
        | zero => exact absurd HA.out (by simp [ext_l])
        | succ k1 =>
        have h := HA.out
        clear HA
        simp only [ext_l] at h
        obtain ⟨hc0, hc1, hc2, hc3, hf2, hf3⟩ := HS.out.cells
        by_cases c5 : x < (tr.length : Int)
        · rw [if_pos c5] at h
          have c5b0 : decide (x < (tr.length : Int)) = true := decide_eq_true c5
          by_cases c6 : 0 ≤ x
          · rw [if_pos c6] at h
            have c6b0 : decide (0 ≤ x) = true := decide_eq_true c6
            obtain ⟨ad2, e4, hy⟩ := Kd.at_int HT.out x c6 c5
            cases e4
            have hy2 := (HB.out.cell (World.block_lt_of_cell? w0 _ hy)).trans hy
            clear hy
            replace c5 := eq_true c5
            replace c6 := eq_true c6
            by_cases c7 : lf2 = 0
            · rw [if_pos c7] at h
              subst c7
              injection h with h
              obtain ⟨rfl, rfl, rfl, rfl⟩ : [] = o ∧ false = ok ∧ 0 = lf' ∧ true = br' := by injection h with h1 h; injection h with h2 h; injection h with h3 h4; exact ⟨h1, h2, h3, h4⟩
              go_wp2
              go_ret2
              exact ⟨_, rfl, HS.out.br_ true, Kd.R_nil _ _ _ _ _, below_set HB.out HW0.out, HK.out.set_ _ _⟩
            · rw [if_neg c7] at h
              have c7b : (lf2 == (0 : Int)) = false := by rw [beq_eq_false_iff_ne]; exact c7
              clear c7
              obtain ⟨b, hfit, h⟩ := Option.bind_eq_some_iff.mp h
              have HH := Aside0.mk h
              have HFIT := Aside0.mk hfit
              clear h hfit
              go_wp2
              generalize hV : World.setCell wr _ _ = V
              have HSV : Aside0 (St53 V g t (some ad) v.length cv (wrap64 (lf2 - 1)) br2) := ⟨by rw [← hV]; exact HS.out.lf_ _⟩
              have HBV : Aside0 (Below w0.heap.size w0 V) := ⟨by rw [← hV]; exact below_set HB.out HW0.out⟩
              have HKV : Aside0 (KeepBut w V g none) := ⟨by rw [← hV]; exact HK.out.set_ _ _⟩
              have HOV : Aside0 (Kd.R (Kd.int .i64) 3 V w0.heap.size (fun k => k ≠ g) (.slice A ch.length c) ch) := ⟨by rw [← hV]; exact Kd.R_far HO.out (fun k hk => hk) _⟩
              clear hV HS HB HK HO hc0 hc1 hc2 hc3 hf2 hf3 hy2
              obtain ⟨hc0, hc1, hc2, hc3, hf2, hf3⟩ := HSV.out.cells
              have K35 := Aside0.mk (fun (W : World) (hb : Below V.heap.size V W) => show Calls Try.prog 35 #[.int .i64 t, .slice (some ad) v.length cv, .slice A ch.length c, .int .i64 (rd tr x)] W (fun e w' => e = .returned (.bool b) ∧ Below V.heap.size V w') from (platform_fits.calls k1 t _ _ v _ _ ch (rd tr x) b W (Kd.C_below HV.out (below_step HBV.out hb)) HC1.out (Kd.C_below (Kd.R_reads' HOV.out).2.2 hb) HCL.out HFIT.out).mono (fun e w' h => ⟨h.1, below_step hb h.2⟩))
              have SBA := Aside0.mk (fun (W : World) (hb : Below V.heap.size V W) => show W.cell? ⟨g, 0, none⟩ = some (.int .i64 t) ∧ W.cell? ⟨g, 1, none⟩ = some (.slice (some ad) v.length cv) ∧ Below V.heap.size V W from ⟨(hb.cell (World.block_lt_of_cell? V _ hc0)).trans hc0, (hb.cell (World.block_lt_of_cell? V _ hc1)).trans hc1, hb⟩)
              go_region_held3 (fun w' => w'.cell? ⟨g, 0, none⟩ = some (.int .i64 t) ∧ w'.cell? ⟨g, 1, none⟩ = some (.slice (some ad) v.length cv) ∧ Below V.heap.size V w')
                (first | exact SBA.out _ (by assumption) | exact SBA.out _ (Below.refl _ _) | exact SBA.out _ (below_drew (Below.refl _ _)))
                (first | (go_at_call 35; refine (K35.out _ (by first | assumption | exact Below.refl _ _ | exact below_drew (Below.refl _ _))).mono ?_; rintro e w3 ⟨rfl, hb⟩))
              rename_i hHeld
              clear hc0 hc1 hc2 hc3 hf2 hf3
              have HS3 : Aside0 (St53 w3 g t (some ad) v.length cv (wrap64 (lf2 - 1)) br2) := ⟨HSV.out.below hb⟩
              have HO3 : Aside0 (Kd.R (Kd.int .i64) 3 w3 w0.heap.size (fun k => k ≠ g) (.slice A ch.length c) ch) := ⟨Kd.R_below HOV.out hb⟩
              have HB3 : Aside0 (Below w0.heap.size w0 w3) := ⟨below_step HBV.out hb⟩
              have HK3 : Aside0 (KeepBut w w3 g none) := ⟨HKV.out.trans (KeepBut.of_below hb g none) (.inl rfl)⟩
              clear hHeld K35 HSV HOV HBV HKV HFIT h SBA
              clear hb V
              have hcell : 0 = 0 := rfl
              cases b with
              | false =>
                have h := HH.out
                rw [if_neg (by simp)] at h
                have H' := Aside0.mk h
                clear HH h
                go_wp2
                go_roundg k1
                case measure => have := HK1.out; omega
                case rel => exact ⟨wrap64 (x + 1), wrap64 (lf2 - 1), br2, (by first | rfl | (simp [i64_w]; done)), H', ⟨by have := HK1.out; omega⟩, HS3, HO3, HB3, HK3⟩
              | true =>
                have h := HH.out
                rw [if_pos rfl] at h
                clear HH
                by_cases c8 : ch.length < 17592186044415
                · rw [if_pos c8] at h
                  obtain ⟨⟨o1, ok1, lf3, br3⟩, hext, h⟩ := Option.bind_eq_some_iff.mp h
                  have HEXT := Aside0.mk hext
                  have HH := Aside0.mk h
                  have HL8 := Aside0.mk c8
                  clear h hext c8
                  have hWb : w0.heap.size ≤ w3.heap.size := below_size HB3.out
                  have K39 := Aside0.mk (show Calls Try.prog 39 #[.slice A ch.length c] w3 (fun e w' => ∃ v0_, e = .returned v0_ ∧ Kd.R (Kd.int .i64) 3 w' w3.heap.size (fun _ => True) v0_ ch ∧ Below w3.heap.size w3 w') from slices_Clone_int_int.calls A c ch ch w3 (Kd.R_reads' HO3.out).2.2 HCL.out (by unfold slices_Clone_int_int.f; rw [if_pos (by have := HL8.out; omega)]))
                  have K31 := Aside0.mk (fun (W : World) (vv : Value) (hS : St53 W g t (some ad) v.length cv (wrap64 (lf2 - 1)) br2) (hB : Below w0.heap.size w0 W) (hR : Kd.R (Kd.int .i64) 3 W w0.heap.size (fun k => k ≠ g) vv (ch ++ [rd tr x])) => IH.out k1 (by have := HK1.out; omega) g t (some ad) cv v (wrap64 (lf2 - 1)) br2 vv (ch ++ [rd tr x]) o1 ok1 lf3 br3 w0 W hS HW0.out hB HV.out HC1.out hR HEXT.out)
                  have HGL : Aside0 (g < w3.heap.size) := ⟨blk_lt (show w3.heap[g]? = some _ from HS3.out)⟩
                  clear IH HEXT
                  cases ok1 <;> cases br3
                  all_goals go_wp2_with (first
                    | (go_at_call 39; (with_reducible refine K39.out.mono ?_); rintro e w4 ⟨vc, rfl, hR4, hB4⟩)
                    | ((with_reducible refine gate_builtin (b := .append) (xs := #[.tmp 63, .tmp 65]) rfl ?_); at_builtin; refine Kd.R_append (Kd.int .i64) (w0 := w3) w3.heap.size rfl (.tmp 63) (.tmp 65) 22 3 (.int .i64 0) 8 rfl Try.underlying22 info3 rfl (by decide) (by omega) _ ch (rd tr x) [.int .i64 (rd tr x)] (fun _ => True) (fun _ => False) rfl rfl rfl (fun _ hk => hk.elim) (fun _ _ => trivial) (by assumption) (by assumption) (below_size (by assumption)) (by have := HL8.out; omega) ?_; intro v5 w5 hR5 hB5 hg5 hat5)
                    | (go_at_call 31; (with_reducible refine (K31.out _ _ (HS3.out.below (by assumption)) (below_step HB3.out (by assumption)) (Kd.R_mono (Kd.R_lower (Kd.R_bound (by assumption)) hWb) (fun k hk => by have := hk.2.1; have := HGL.out; omega))).mono ?_); rintro e w6 ⟨vo, rfl, hS6, hR6, hB6, hK6⟩; have HS6 := Aside0.mk hS6; have HR6 := Aside0.mk hR6; have HB6 := Aside0.mk hB6; have HK6 := Aside0.mk (((HK3.out.trans (KeepBut.of_below (by assumption) g none) (.inl rfl))).trans hK6 (.inl rfl)); have HO6 := Aside0.mk (Kd.R_keep (Kd.R_below HO3.out (by assumption)) hK6 (fun k hk => hk)); obtain ⟨_, _, _, hc3, _, _⟩ := hS6.cells; clear hS6 hR6 hB6 hK6))
                  all_goals first
                    | (have h := HH.out; rw [if_pos (by rfl)] at h; simp only [Option.some.injEq, Prod.mk.injEq] at h; obtain ⟨rfl, rfl, rfl, rfl⟩ := h; go_ret2; exact ⟨_, rfl, HS6.out, HR6.out, HB6.out, HK6.out⟩)
                    | (have h := HH.out; rw [if_neg (by simp)] at h; have H' := Aside0.mk h; clear HH h; go_roundg k1; (case measure => have := HK1.out; omega); (case rel => exact ⟨wrap64 (x + 1), lf3, false, (by first | rfl | (simp [i64_w]; done)), H', ⟨by have := HK1.out; omega⟩, HS6, HO6, HB6, HK6⟩))
                · rw [if_neg c8] at h
                  cases h
          · rw [if_neg c6] at h
            cases h
        · rw [if_neg c5] at h
          injection h with h
          obtain ⟨rfl, rfl, rfl, rfl⟩ : [] = o ∧ false = ok ∧ lf2 = lf' ∧ br2 = br' := by injection h with h1 h; injection h with h2 h; injection h with h3 h4; exact ⟨h1, h2, h3, h4⟩
          have c5b0 : decide (x < (tr.length : Int)) = false := decide_eq_false c5
          clear c5
          go_wp2
          go_ret2
          exact ⟨_, rfl, HS.out, Kd.R_nil _ _ _ _ _, HB.out, HK.out⟩
    · rw [if_neg e2] at h
      cases h

theorem ext_mono : ∀ k, (∀ y0 y1 y2 y3 y4, LeO (ext_f k y0 y1 y2 y3 y4) (ext_f (k + 1) y0 y1 y2 y3 y4)) ∧ (∀ y0 y1 y2 y3 y4 y5 y6, LeO (ext_l k y0 y1 y2 y3 y4 y5 y6) (ext_l (k + 1) y0 y1 y2 y3 y4 y5 y6))
  | 0 => ⟨fun _ _ _ _ _ r h => by simp [ext_f] at h, fun _ _ _ _ _ _ _ r h => by simp [ext_l] at h⟩
  | k + 1 => by
    obtain ⟨ih0, ih1⟩ := ext_mono k
    refine ⟨?_, ?_⟩
    · intro y0 y1 y2 y3 y4
      unfold ext_f
      repeat' first
      | exact ih1 _ _ _ _ _ _ _
      | exact LeO.refl _
      | exact LeO.none _
      | refine LeO.ite ?_ ?_
    · intro y0 y1 y2 y3 y4 y5 y6
      unfold ext_l
      repeat' first
      | exact ih1 _ _ _ _ _ _ _
      | exact ih0 _ _ _ _ _
      | exact platform_fits.mono _ _ _ _ _
      | exact LeO.refl _
      | exact LeO.none _
      | refine LeO.ite ?_ ?_
      | refine LeO.bind ?_ (fun _ => ?_)

/-! ### platform_Assign: function 15 -/
def platform_Assign.f (k : Nat) (a0 : Int) (l1 : List (S28)) (a2 : Int) : Option (List Int × Int × Int) := (platform_Valid.f k a0 l1).bind fun b => if b = true then (if a2 < 1 then some ([], 0, 4) else if 1048576 < a2 then some ([], 0, 4) else (ext_f k a0 l1 a2 false []).bind fun o => if o.2.2.2 = true then some ([], 0, 15) else if o.2.1 = true then some (o.1, wrap64 (a2 - o.2.2.1), 0) else some ([], wrap64 (a2 - o.2.2.1), 14)) else some ([], 0, 1)
theorem platform_Assign.mono : ∀ a0 a1 a2 k, LeO (platform_Assign.f k a0 a1 a2) (platform_Assign.f (k + 1) a0 a1 a2) := by
  intro a0 a1 a2 k
  unfold platform_Assign.f
  repeat' first
      | exact (ext_mono k).1 _ _ _ _ _
      | exact platform_Valid.mono _ _ _
      | exact LeO.refl _
      | exact LeO.none _
      | refine LeO.ite ?_ ?_
      | refine LeO.bind ?_ (fun _ => ?_)
set_option maxHeartbeats 8000000 in
set_option maxRecDepth 100000 in
theorem platform_Assign.calls (k : Nat) (a0 : Int) (A1 : Option Addr) (c1 : Nat) (l1 : List (S28)) (a2 : Int) (r1 : List Int) (r2 : Int) (r3 : Int) (w : World) (hr1 : Kd.C k28 w A1 l1.length l1) (hc1 : l1.length ≤ c1) (h : platform_Assign.f k a0 l1 a2 = some (r1, r2, r3)) :
    Calls Try.prog 15 #[.int .i64 a0, .slice A1 l1.length c1, .int .i64 a2] w fun e w' => ∃ v0_ : Value, e = .returned (.tuple #[v0_, .int .i64 r2, .int .i64 r3]) ∧ Kd.R (Kd.int .i64) 3 w' w.heap.size (fun _ => True) v0_ r1 ∧ Below w.heap.size w w' := by
  have HR1 := Aside0.mk hr1
  have HC1 := Aside0.mk hc1
  clear hr1 hc1
  obtain ⟨b, hb, h⟩ := Option.bind_eq_some_iff.mp h
  have K29 := Aside0.mk (platform_Valid.calls k a0 A1 c1 l1 b w HR1.out HC1.out hb)
  clear hb
  cases b with
  | false =>
    rw [if_neg (by simp)] at h
    simp only [Option.some.injEq, Prod.mk.injEq] at h
    obtain ⟨rfl, rfl, rfl⟩ := h
    go_enter Try.func15, Try.ntmps15
    go_wp2_with (first | (go_at_call 29; (with_reducible refine K29.out.mono ?_); rintro e w4 ⟨rfl, hB4⟩))
    go_ret3
    exact ⟨_, rfl, Kd.R_nil _ _ _ _ _, by assumption⟩
  | true =>
    rw [if_pos rfl] at h
    by_cases c1_ : a2 < 1
    · rw [if_pos c1_] at h
      simp only [Option.some.injEq, Prod.mk.injEq] at h
      obtain ⟨rfl, rfl, rfl⟩ := h
      have c1b : decide (a2 < 1) = true := decide_eq_true c1_
      clear c1_
      go_enter Try.func15, Try.ntmps15
      go_wp2_with (first | (go_at_call 29; (with_reducible refine K29.out.mono ?_); rintro e w4 ⟨rfl, hB4⟩))
      go_ret3
      exact ⟨_, rfl, Kd.R_nil _ _ _ _ _, by assumption⟩
    · rw [if_neg c1_] at h
      have c1b : decide (a2 < 1) = false := decide_eq_false c1_
      clear c1_
      by_cases c2_ : 1048576 < a2
      · rw [if_pos c2_] at h
        simp only [Option.some.injEq, Prod.mk.injEq] at h
        obtain ⟨rfl, rfl, rfl⟩ := h
        have c2b : decide (1048576 < a2) = true := decide_eq_true c2_
        clear c2_
        go_enter Try.func15, Try.ntmps15
        go_wp2_with (first | (go_at_call 29; (with_reducible refine K29.out.mono ?_); rintro e w4 ⟨rfl, hB4⟩))
        go_ret3
        exact ⟨_, rfl, Kd.R_nil _ _ _ _ _, by assumption⟩
      · rw [if_neg c2_] at h
        have c2b : decide (1048576 < a2) = false := decide_eq_false c2_
        clear c2_
        obtain ⟨⟨o, ok, lf, br⟩, hext, h⟩ := Option.bind_eq_some_iff.mp h
        have HH := Aside0.mk h
        have KE := Aside0.mk (fun (W : World) (g : Nat) (hS : St53 W g a0 A1 l1.length c1 a2 false) (hg : w.heap.size ≤ g) (hB : Below w.heap.size w W) => ext_calls k g a0 A1 c1 l1 a2 false (.slice none 0 0) [] o ok lf br w W hS hg hB HR1.out HC1.out (Kd.R_nil _ _ _ _ _) hext)
        clear h hext
        cases br <;> cases ok
        all_goals
          go_enter Try.func15, Try.ntmps15
          go_wp2_with (first
            | (go_at_call 29; (with_reducible refine K29.out.mono ?_); rintro e w4 ⟨rfl, hB4⟩)
            | ((with_reducible refine gate_dst (N := 26) rfl ?_); refine box_event ?hg (N := 26) ?hd (cs := #[.int .i64 a0, .slice A1 l1.length c1, .int .i64 a2, .bool false]) (t := 53) ?hr ?_; (case hd => rfl); (case hg => rfl); (case hr => first | (go_simp; done) | (go_simp; rfl)); intro gb hg w5 hbox hb5; have HG := Aside0.mk (show w.heap.size ≤ gb from by rw [hg]; exact below_size (by assumption)); have HBX := Aside0.mk (show St53 w5 gb a0 A1 l1.length c1 a2 false from hbox); have HB5 := Aside0.mk (below_step (show Below w.heap.size w _ from by assumption) hb5); clear hbox hb5 hg))
          go_wp2_with (first
            | (go_at_call 31; (with_reducible refine (KE.out _ _ HBX.out HG.out HB5.out).mono ?_); rintro e w6 ⟨vo, rfl, hS6, hR6, hB6, hK6⟩; have HS6 := Aside0.mk hS6; have HR6 := Aside0.mk hR6; have HB6 := Aside0.mk hB6; obtain ⟨_, _, hc2, hc3, _, _⟩ := hS6.cells; clear hS6 hR6 hB6 hK6))
          all_goals
            have h := HH.out
            simp only [Bool.false_eq_true, if_true, if_false, Option.some.injEq, Prod.mk.injEq] at h
            obtain ⟨rfl, rfl, rfl⟩ := h
          first
            | (go_ret3; exact ⟨_, rfl, Kd.R_nil _ _ _ _ _, HB6.out⟩)
            | (go_quiet (fail); go_wp2; go_ret3; first | exact ⟨vo, rfl, Kd.R_mono (Kd.R_drewN HR6.out _) (fun _ _ => trivial), pw_below_drewN HB6.out _⟩ | exact ⟨_, rfl, Kd.R_nil _ _ _ _ _, pw_below_drewN HB6.out _⟩)

/-! ### railplanlaw20_two: function 19 -/
def railplanlaw20_two.f  : Option ((List (S28))) := some (([(⟨8, 4, (([1, 2] : List Int))⟩ : S28), (⟨0, 3, (([1] : List Int))⟩ : S28)] : List (S28)))
set_option maxHeartbeats 8000000 in
set_option maxRecDepth 100000 in
theorem railplanlaw20_two.calls  (r : List (S28)) (w : World) (h : railplanlaw20_two.f  = some r) :
    Calls Try.prog 19 #[] w fun e w' => ∃ v0_ : Value, e = .returned (v0_) ∧ Kd.N k28 28 w' w.heap.size (fun k_ => (w.heap.size ≤ k_)) v0_ r ∧ Below w.heap.size w w' := by
  have hu28 := Try.underlying28
  have HB := Aside0.mk (Below.refl w.heap.size w)
  have H : (some (([(⟨8, 4, (([1, 2] : List Int))⟩ : S28), (⟨0, 3, (([1] : List Int))⟩ : S28)] : List (S28)))) = some r := h
  clear h
  obtain ⟨y135, hy135⟩ : ∃ y_ : List Int, y_ = (([1, 2] : List Int)) := ⟨_, rfl⟩
  replace H : (some (([(⟨8, 4, y135⟩ : S28), (⟨0, 3, (([1] : List Int))⟩ : S28)] : List (S28)))) = some r := by first | (rw [hy135]; with_reducible exact H) | (have H2_ := (Option.bind_some _ _).symm.trans H; rw [hy135]; with_reducible exact H2_) | (have H2_ := (Option.bind_some _ _).symm.trans H; with_reducible exact H2_) | with_reducible exact H | (rw [hy135]; exact H) | exact H
  have Ny135 := Aside0.mk hy135
  clear hy135
  obtain ⟨y138, hy138⟩ : ∃ y_ : List Int, y_ = (([1] : List Int)) := ⟨_, rfl⟩
  replace H : (some (([(⟨8, 4, y135⟩ : S28), (⟨0, 3, y138⟩ : S28)] : List (S28)))) = some r := by first | (rw [hy138]; with_reducible exact H) | (have H2_ := (Option.bind_some _ _).symm.trans H; rw [hy138]; with_reducible exact H2_) | (have H2_ := (Option.bind_some _ _).symm.trans H; with_reducible exact H2_) | with_reducible exact H | (rw [hy138]; exact H) | exact H
  have Ny138 := Aside0.mk hy138
  clear hy138
  obtain ⟨y141, hy141⟩ : ∃ y_ : List (S28), y_ = (([(⟨8, 4, y135⟩ : S28), (⟨0, 3, y138⟩ : S28)] : List (S28))) := ⟨_, rfl⟩
  replace H : (some y141) = some r := by first | (rw [hy141]; with_reducible exact H) | (have H2_ := (Option.bind_some _ _).symm.trans H; rw [hy141]; with_reducible exact H2_) | (have H2_ := (Option.bind_some _ _).symm.trans H; with_reducible exact H2_) | with_reducible exact H | (rw [hy141]; exact H) | exact H
  have Ny141 := Aside0.mk hy141
  clear hy141
  obtain rfl := Option.some.inj H
  go_enter Try.func19, Try.ntmps19
  go_wp2_with (first | ((with_reducible refine gate_dst (N := 1) rfl ?_); refine Kd.R_lit (Kd.int .i64) _ 3 ?hg (N := 1) ?hd (xs := ([1, 2] : List Int)) (inner := [.int .i64 1, .int .i64 2]) (ok := fun _ => True) (okp := fun _ => True) ?hr ?hp (fun _ hk => hk) trivial (Below.refl _ _) (Nat.le_refl _) (by simp) ?_; (case hd => rfl); (case hg => rfl); (case hr => first | (go_simp; done) | (go_simp; rfl)); (case hp => exact (Reps.one (show Kd.M (Kd.int .i64) _ _ _ 1 [.int .i64 1] from rfl) (Reps.one (show Kd.M (Kd.int .i64) _ _ _ 2 [.int .i64 2] from rfl) (Reps.none _ _)))); intro v136 w1 ho2 hb hg_ hnew_; clear hg_ hnew_; (first | rw [← Ny135.out] at ho2 | (simp only [Int.reduceToNat] at ho2; rw [← Ny135.out] at ho2)); have n0_ := Aside0.mk (Kd.R_lower (Kd.R_newM (M := fun k_ => (w.heap.size ≤ k_)) ho2 (below_size (by repeat (first | (with_reducible first | exact HB.out | apply below_alloc | apply pw_below_drewN | apply below_drew1) | exact HB.out))) (fun k_ h_ => h_)) (below_size (by repeat (first | (with_reducible first | exact HB.out | apply below_alloc | apply pw_below_drewN | apply below_drew1) | exact HB.out)))); have n1_ := Aside0.mk (below_step (by repeat (first | (with_reducible first | exact HB.out | apply below_alloc | apply pw_below_drewN | apply below_drew1) | exact HB.out)) hb); clear HB; have HO137 := n0_; have HB := n1_; clear n0_ n1_; clear hb ho2; obtain ⟨Ao3, co3, eo3⟩ := Kd.R_slice HO137.out; subst eo3) | ((with_reducible refine gate_dst (N := 3) rfl ?_); refine Kd.R_lit (Kd.int .i64) _ 3 ?hg (N := 3) ?hd (xs := ([1] : List Int)) (inner := [.int .i64 1]) (ok := fun _ => True) (okp := fun _ => True) ?hr ?hp (fun _ hk => hk) trivial (Below.refl _ _) (Nat.le_refl _) (by simp) ?_; (case hd => rfl); (case hg => rfl); (case hr => first | (go_simp; done) | (go_simp; rfl)); (case hp => exact (Reps.one (show Kd.M (Kd.int .i64) _ _ _ 1 [.int .i64 1] from rfl) (Reps.none _ _))); intro v139 w4 ho5 hb hg_ hnew_; clear hg_ hnew_; (first | rw [← Ny138.out] at ho5 | (simp only [Int.reduceToNat] at ho5; rw [← Ny138.out] at ho5)); have n0_ := Aside0.mk (Kd.R_elder' (by (with_reducible repeat (first | apply Kd.R_alloc | apply Kd.R_drewN | apply Kd.R_drew)); exact HO137.out) (Kd.R_base ho5) hb); have n1_ := Aside0.mk (Kd.R_lower (Kd.R_new' (Kd.R_newM (M := fun k_ => (w.heap.size ≤ k_)) ho5 (below_size (by repeat (first | (with_reducible first | exact HB.out | apply below_alloc | apply pw_below_drewN | apply below_drew1) | exact HB.out))) (fun k_ h_ => h_)) (Kd.R_lt (by (with_reducible repeat (first | apply Kd.R_alloc | apply Kd.R_drewN | apply Kd.R_drew)); exact HO137.out))) (below_size (by repeat (first | (with_reducible first | exact HB.out | apply below_alloc | apply pw_below_drewN | apply below_drew1) | exact HB.out)))); have n2_ := Aside0.mk (below_step (by repeat (first | (with_reducible first | exact HB.out | apply below_alloc | apply pw_below_drewN | apply below_drew1) | exact HB.out)) hb); clear HO137; clear HB; have HO137 := n0_; have HO140 := n1_; have HB := n2_; clear n0_ n1_ n2_; clear hb ho5; obtain ⟨Ao6, co6, eo6⟩ := Kd.R_slice HO140.out; subst eo6) | ((with_reducible refine gate_dst (N := 5) rfl ?_); refine Kd.N_lit k28 _ 28 ?hg (N' := 5) ?hd (xs := ([(⟨8, 4, y135⟩ : S28), (⟨0, 3, y138⟩ : S28)] : List (S28))) (inner := [.int .i64 8, .int .i64 4, .slice Ao3 y135.length co3, .int .i64 0, .int .i64 3, .slice Ao6 y138.length co6]) (ok := (fun k_ => (w.heap.size ≤ k_))) (okp := (fun k_ => (w.heap.size ≤ k_))) ?hr ?hp (fun _ hk => hk) ((show ∀ k_, w4.heap.size ≤ k_ → (fun k_ => (w.heap.size ≤ k_)) k_ from fun k_ hk => (Nat.le_trans (below_size (by repeat (first | (with_reducible first | exact HB.out | apply below_alloc | apply pw_below_drewN | apply below_drew1) | exact HB.out))) hk)) _ (Nat.le_refl _)) (Below.refl _ _) (Nat.le_refl _) (by simp) ?_; (case hd => rfl); (case hg => rfl); (case hr => first | (go_simp; done) | (go_simp; rfl)); (case hp => exact (Reps.c3 (show Kd.FK k28 _ _ (⟨8, 4, y135⟩ : S28) [.int .i64 8, .int .i64 4, .slice Ao3 y135.length co3] from (k28_mkF _ _ (⟨8, 4, y135⟩ : S28) (Kd.R_reads' (Kd.R_mono (ok' := (fun k_ => (w.heap.size ≤ k_))) (HO137.out) (fun k_ hk => hk.1.1))).2.1 (Kd.R_F (Kd.R_mono (ok' := (fun k_ => (w.heap.size ≤ k_))) (HO137.out) (fun k_ hk => hk.1.1))))) (Reps.c3 (show Kd.FK k28 _ _ (⟨0, 3, y138⟩ : S28) [.int .i64 0, .int .i64 3, .slice Ao6 y138.length co6] from (k28_mkF _ _ (⟨0, 3, y138⟩ : S28) (Kd.R_reads' (Kd.R_mono (ok' := (fun k_ => (w.heap.size ≤ k_))) (HO140.out) (fun k_ hk => hk.1.1))).2.1 (Kd.R_F (Kd.R_mono (ok' := (fun k_ => (w.heap.size ≤ k_))) (HO140.out) (fun k_ hk => hk.1.1))))) (Reps.none _ _)))); intro v142 w7 ho8 hb hg_ hnew_; clear hg_ hnew_; (first | rw [← Ny141.out] at ho8 | (simp only [Int.reduceToNat] at ho8; rw [← Ny141.out] at ho8)); have n0_ := Aside0.mk (Kd.N_lower ho8 (below_size (by repeat (first | (with_reducible first | exact HB.out | apply below_alloc | apply pw_below_drewN | apply below_drew1) | exact HB.out)))); have n1_ := Aside0.mk (below_step (by repeat (first | (with_reducible first | exact HB.out | apply below_alloc | apply pw_below_drewN | apply below_drew1) | exact HB.out)) hb); clear HB; clear HO137; clear HO140; have HO143 := n0_; have HB := n1_; clear n0_ n1_; clear hb ho8))
  go_ret
  exact ⟨_, by first | rfl | (simp [errW_none, errW_some] <;> rfl) | (simp [*, errW_none, errW_some] <;> rfl), by (with_reducible repeat (first | apply Kd.N_alloc | apply Kd.N_drewN | apply Kd.N_drew)); exact HO143.out, by repeat (first | (with_reducible first | exact HB.out | apply below_alloc | apply pw_below_drewN | apply below_drew1) | exact HB.out)⟩

end Go.Proofs.Ytdgdjbehddeepaa.PAll
