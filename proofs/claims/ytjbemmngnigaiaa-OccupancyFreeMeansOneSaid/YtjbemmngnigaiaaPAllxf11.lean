/- What calls of the Go functions below do, each under the premises that its theorem states. Laid by a program of the claimant, which drives the kit's print; some texts are written by hand. -/
import Derived.Test.YtjbemmngnigaiaaPAllx0
import Derived.Test.YtjbemmngnigaiaaPAllxf17
import Derived.Test.YtjbemmngnigaiaaPAllxf9
namespace Go.Proofs.Ytjbemmngnigaiaa.PAll
open Go.RowKit Go.Proofs.YtjbemmngnigaiaaW.PrintWords Go.Proofs.YtjbemmngnigaiaaW.PrintLast Go.Proofs.YtjbemmngnigaiaaW.PrintMore
attribute [local go_sem] max2_int min2_int max_two min_two max_three min_three max_four min_four   -- for this text's walks alone
set_option linter.unusedVariables false
set_option linter.unusedSimpArgs false

-- NOT PRINTED: function 46 (slices_partitionOrdered_int)

-- NOT PRINTED: function 32 (slices_pdqsortOrdered_int)

-- NOT PRINTED: function 20 (slices_Sort_int_int)

-- NOT PRINTED: function 21 (slices_Compact_int_int)

/-- Cells put into a row from o on. -/
def putI : Array Value → Nat → List Value → Array Value
  | c, _, [] => c
  | c, o, v :: r => putI (c.setIfInBounds o v) (o + 1) r
theorem putI_size : ∀ (vs : List Value) (c : Array Value) (o : Nat), (putI c o vs).size = c.size
  | [], _, _ => rfl
  | v :: r, c, o => by simp [putI, putI_size r]
theorem putI_get : ∀ (vs : List Value) (c : Array Value) (o k : Nat), o + vs.length ≤ c.size → (putI c o vs)[k]? = if o ≤ k ∧ k < o + vs.length then vs[k - o]? else c[k]?
  | [], c, o, k, _ => by
    rw [if_neg (by rw [List.length_nil]; omega)]; rfl
  | v :: r, c, o, k, h => by
    rw [List.length_cons] at h
    show (putI (c.setIfInBounds o v) (o + 1) r)[k]? = _
    rw [putI_get r _ (o + 1) k (by simp; omega)]
    by_cases h1 : k = o
    · subst h1
      rw [if_neg (by omega), if_pos (by rw [List.length_cons]; omega), Nat.sub_self, Array.getElem?_setIfInBounds_self_of_lt (by omega)]
      rfl
    · by_cases h2 : o + 1 ≤ k ∧ k < o + 1 + r.length
      · rw [if_pos h2, if_pos (by rw [List.length_cons]; omega), show k - o = k - (o + 1) + 1 by omega]
        rfl
      · rw [if_neg h2, if_neg (by rw [List.length_cons]; omega), Array.getElem?_setIfInBounds_ne (by omega)]
theorem blk_putI {g : Nat} {t : TypeId} : ∀ (vs : List Value) (o : Nat) (w : World) (cs : Array Value), w.heap[g]? = some (.cells cs t (0, 0)) → (w.setCells g o vs).heap[g]? = some (.cells (putI cs o vs) t (0, 0))
  | [], _, _, _, h => h
  | v :: r, o, w, cs, h => blk_putI r (o + 1) _ _ (blk_set h o v)
theorem below_setCells {w0 : World} {g : Nat} (hg : w0.heap.size ≤ g) : ∀ (vs : List Value) (o : Nat) (w : World), Below w0.heap.size w0 w → Below w0.heap.size w0 (w.setCells g o vs)
  | [], _, _, h => h
  | v :: r, o, w, h => below_setCells hg r (o + 1) _ (below_set h hg)
theorem R_put {W : World} {base g cap : Nat} {cur : Array Value} (hbg : base ≤ g) (hblk : W.heap[g]? = some (.cells cur 3 (0, 0))) (hcm : cap ≤ maxLen) (hcs : cur.size = cap) (vs : List Int) (m : Nat) (hm : m ≤ vs.length) (hv : vs.length ≤ cap) :
    Kd.R (Kd.int .i64) 3 (W.setCells g 0 (vs.map (Value.int .i64))) base (fun _ => True) (.slice (some ⟨g, 0, none⟩) m cap) (vs.take m) := by
  have hl : (vs.take m).length = m := by rw [List.length_take]; omega
  refine Kd.R_of_own ?_ (fun _ _ => trivial)
  rw [hl]
  refine ⟨by rw [encs_length, hl]; omega, .inr ⟨g, cap, _, rfl, hbg, blk_putI _ _ _ _ hblk, by omega, hcm, by rw [putI_size, hcs]; omega, ?_⟩⟩
  apply List.ext_getElem?
  intro k
  rw [Nat.mul_one]
  rcases Nat.lt_or_ge k m with hk | hk
  · rw [List.getElem?_take_of_lt hk, Array.getElem?_toList, putI_get _ _ _ _ (by rw [List.length_map]; omega), if_pos (by rw [List.length_map]; omega)]
    simp only [encs, List.getElem?_map, Nat.sub_zero]
    rw [List.getElem?_take_of_lt hk]
  · rw [List.getElem?_eq_none (by rw [List.length_take]; omega), List.getElem?_eq_none (by rw [encs_length, hl]; omega)]
theorem R_cells {W : World} {base : Nat} {v : Value} {L : List Int} (hR : Kd.R (Kd.int .i64) 3 W base (fun _ => True) v L) (h0 : 0 < L.length) : ∃ (g cap : Nat) (cur : Array Value), v = .slice (some ⟨g, 0, none⟩) L.length cap ∧ base ≤ g ∧ W.heap[g]? = some (.cells cur 3 (0, 0)) ∧ L.length ≤ cap ∧ cap ≤ maxLen ∧ cur.size = cap ∧ (∀ j, j < L.length → W.cell? ⟨g, 0 + j, none⟩ = some (.int .i64 (L.getD j 0))) ∧ ∀ j, j < L.length → W.frozen? ⟨g, 0 + j, none⟩ = false := by
  obtain ⟨hn0, hown⟩ := Kd.own_of_R hR
  rcases hown with ⟨_, hz⟩ | ⟨g, cap, cur, hv, hbg, hblk, hnc, hcm, hcs, htk⟩
  · omega
  · refine ⟨g, cap, cur, hv, hbg, hblk, hnc, hcm, by omega, fun j hj => ?_, fun j hj => blk_frozen hblk _⟩
    rw [Nat.zero_add, blk_cell hblk]
    have e1 : (cur.toList.take (L.length * 1))[j]? = some (.int .i64 (L.getD j 0)) := by
      rw [htk]
      simp [encs, List.getElem?_eq_getElem hj, List.getD_eq_getElem?_getD]
    rw [Nat.mul_one, List.getElem?_take_of_lt hj, Array.getElem?_toList] at e1
    exact e1
theorem R_zero {W : World} {base : Nat} {v : Value} {L : List Int} (hR : Kd.R (Kd.int .i64) 3 W base (fun _ => True) v L) (h0 : L.length = 0) : ∃ (A : Option Addr) (c : Nat), v = .slice A 0 c := by
  obtain ⟨A, c, e⟩ := Kd.R_slice hR
  exact ⟨A, c, by rw [e, h0]⟩
open Go.Shelf in
theorem sort_R (w0 W : World) (v : Value) (L : List Int) (hR : Kd.R (Kd.int .i64) 3 W w0.heap.size (fun _ => True) v L) (HB : Below w0.heap.size w0 W) (hbig : L.length < 4611686018427387904) :
    Calls Try.prog 20 #[v] W fun e w' => e = .returned (.tuple #[]) ∧ Kd.R (Kd.int .i64) 3 w' w0.heap.size (fun _ => True) v (L.mergeSort fun x y => decide (x ≤ y)) ∧ Below w0.heap.size w0 w' := by
  by_cases h0 : L.length = 0
  · obtain ⟨A, c, rfl⟩ := R_zero hR h0
    obtain rfl := List.eq_nil_of_length_eq_zero h0
    refine (Any.slices_Sort_int_none Try.laysSort A c W).mono ?_
    rintro e w' ⟨rfl, rfl⟩
    exact ⟨rfl, by simpa using hR, HB⟩
  · obtain ⟨g, cap, cur, rfl, hbg, hblk, hnc, hcm, hcs, hc, hf⟩ := R_cells hR (by omega)
    have hH := Lib.holds_of_ints (Nat.le_refl L.length) hc hf
    rw [List.take_length] at hH
    refine (Any.slices_Sort_int Try.laysSort g 0 cap L W hH (blk_lt hblk) hbig).mono ?_
    rintro e w' ⟨rfl, n, os, rfl⟩
    rw [Lib.sorted_world _ W g 0 n _ _ os hH (by simp)]
    have hlen : (L.mergeSort fun x y => decide (x ≤ y)).length = L.length := by simp
    have hblk' : (W.drewN n).heap[g]? = some (.cells cur 3 (0, 0)) := hblk
    have hR2 := R_put hbg hblk' hcm hcs (L.mergeSort fun x y => decide (x ≤ y)) L.length (by omega) (by omega)
    rw [List.take_of_length_le (by omega)] at hR2
    have hB2 := below_setCells hbg ((L.mergeSort fun x y => decide (x ≤ y)).map (Value.int .i64)) 0 _ (pw_below_drewN HB n)
    generalize (W.drewN n).setCells g 0 ((L.mergeSort fun x y => decide (x ≤ y)).map (Value.int .i64)) = W2 at hR2 hB2 ⊢
    have hgr : Below W2.heap.size W2 (Sort.grow W2 os) := ⟨rfl, rfl, rfl, by show W2.heap.size ≤ (W2.heap ++ os).size; rw [Array.size_append]; omega, fun _ hj => Sort.heap_grow_old W2 os hj⟩
    exact ⟨rfl, Kd.R_below hR2 hgr, below_step hB2 hgr⟩
open Go.Shelf in
theorem compact_R (w0 W : World) (v : Value) (L : List Int) (hR : Kd.R (Kd.int .i64) 3 W w0.heap.size (fun _ => True) v L) (HB : Below w0.heap.size w0 W) (hbig : L.length < 4611686018427387904) :
    Calls Try.prog 21 #[v] W fun e w' => ∃ v' : Value, e = .returned v' ∧ Kd.R (Kd.int .i64) 3 w' w0.heap.size (fun _ => True) v' (Lib.compact L) ∧ Below w0.heap.size w0 w' := by
  by_cases h0 : L.length = 0
  · obtain ⟨A, c, rfl⟩ := R_zero hR h0
    obtain rfl := List.eq_nil_of_length_eq_zero h0
    refine (Any.slices_Compact_int_empty Try.lays20 A c W).mono ?_
    rintro e w' ⟨rfl, rfl⟩
    exact ⟨_, rfl, by rw [show Lib.compact ([] : List Int) = [] from List.eq_nil_of_length_eq_zero (Nat.le_zero.1 (Lib.compact_length_le []))]; exact hR, HB⟩
  · obtain ⟨g, cap, cur, rfl, hbg, hblk, hnc, hcm, hcs, hc, hf⟩ := R_cells hR (by omega)
    have K := Any.slices_Compact_int_cells Try.lays20 g 0 L.length cap L W (Nat.le_refl _) (by omega) hnc hc hf
    rw [List.take_length] at K
    refine K.mono ?_
    rintro e w' ⟨rfl, q, rfl⟩
    have hle := Lib.compact_length_le L
    have hblk' : (W.drewN q).heap[g]? = some (.cells cur 3 (0, 0)) := hblk
    have hR2 := R_put hbg hblk' hcm hcs (Lib.compact L ++ List.replicate (L.length - (Lib.compact L).length) 0) (Lib.compact L).length (by simp) (by simp; omega)
    rw [List.take_left' rfl] at hR2
    exact ⟨_, rfl, hR2, below_setCells hbg _ 0 _ (pw_below_drewN HB q)⟩

def hold (t r s : Int) (u : S23) : Option Bool := if u.f0 = r then (if u.f3 ≥ t then some true else (arith_Mod.f s t).bind fun m1 => (arith_Mod.f u.f2 t).bind fun m2 => (arith_Mod.f (wrap64 (m1 - m2)) t).bind fun m3 => some (decide (m3 < u.f3))) else some false
def atIn (t : Int) (l : List S23) (r s : Int) : Nat → Nat → List Int → Option (List Int)
  | 0, _, acc => some acc
  | d + 1, i, acc => (hold t r s (rd_T23 l i)).bind fun b => if b = true then (if acc.length < 17592186044000 then atIn t l r s d (i + 1) (acc ++ [(rd_T23 l i).f1]) else none) else atIn t l r s d (i + 1) acc
theorem atIn_len (t : Int) (l : List S23) (r s : Int) : ∀ (d i : Nat) (acc L : List Int), acc.length ≤ 17592186044000 → atIn t l r s d i acc = some L → L.length ≤ 17592186044000
  | 0, i, acc, L, h0, h => by simp only [atIn] at h; obtain rfl := Option.some.inj h; exact h0
  | d + 1, i, acc, L, h0, h => by
    simp only [atIn] at h
    obtain ⟨b, _, h⟩ := Option.bind_eq_some_iff.mp h
    split at h
    · split at h
      · exact atIn_len t l r s d (i + 1) _ L (by rw [List.length_append, List.length_singleton]; omega) h
      · cases h
    · exact atIn_len t l r s d (i + 1) _ L h0 h

/-! ### occupancy_At: function 11 -/
def occupancy_At.f (t : Int) (l : List S23) (r s : Int) : Option (List Int) := (occupancy_Valid.f t l).bind fun b => if b = true then (atIn t l r s l.length 0 []).bind fun L => some (Go.Lib.compact (L.mergeSort fun x y => decide (x ≤ y))) else some []
set_option maxHeartbeats 8000000 in
set_option maxRecDepth 100000 in
theorem occupancy_At.calls (a0 : Int) (A1 : Option Addr) (c1 : Nat) (l1 : List S23) (a2 a3 : Int) (r : List Int) (w : World) (hr1 : Kd.C k23 w A1 l1.length l1) (hc1 : l1.length ≤ c1) (h : occupancy_At.f a0 l1 a2 a3 = some r) :
    Calls Try.prog 11 #[.int .i64 a0, .slice A1 l1.length c1, .int .i64 a2, .int .i64 a3] w fun e w' => ∃ v0_ : Value, e = .returned (v0_) ∧ Kd.R (Kd.int .i64) 3 w' w.heap.size (fun _ => True) v0_ r ∧ Below w.heap.size w w' := by
  have hl1 := hr1.2.1
  unfold occupancy_At.f at h
  obtain ⟨b, hb, H⟩ := Option.bind_eq_some_iff.mp h
  have KV := Aside0.mk (fun (W : World) (hb' : Below w.heap.size w W) => occupancy_Valid.calls a0 A1 c1 l1 b W (Kd.C_below hr1 hb') hc1 hb)
  have HR1 := Aside0.mk hr1
  have HL1 := Aside0.mk hl1
  clear hr1 hc1 h hb hl1
  have hu23 := Try.underlying23
  cases b with
  | false =>
    rw [if_neg (by decide)] at H
    obtain rfl := Option.some.inj H
    go_enter Try.func11, Try.ntmps11
    go_wp2_with (go_at_call 17; (with_reducible refine (KV.out _ (Below.refl _ _)).mono ?_); rintro e w' ⟨rfl, hb⟩)
    go_ret
    exact ⟨_, rfl, Kd.R_nil _ _ _ _ _, hb⟩
  | true =>
    rw [if_pos rfl] at H
    obtain ⟨L, hL, H⟩ := Option.bind_eq_some_iff.mp H
    obtain rfl := Option.some.inj H
    have HLL := Aside0.mk (atIn_len a0 l1 a2 a3 _ _ _ _ (by simp) hL)
    have H0 := Aside0.mk hL
    clear H hL
    go_enter Try.func11, Try.ntmps11
    go_wp2_with (go_at_call 17; (with_reducible refine (KV.out _ (Below.refl _ _)).mono ?_); rintro e w1 ⟨rfl, hb⟩; have HB1 := Aside0.mk hb; clear hb)
    have HN1 : Aside0 (Kd.R (Kd.int .i64) 3 w1 w.heap.size (fun _ => True) (.slice none 0 0) []) := ⟨Kd.R_nil _ _ _ _ _⟩
    go_loopg [9, 18] l1.length (fun g v9 v18 w' => ∃ (i : Nat) (acc : List Int), i ≤ l1.length ∧ l1.length - i ≤ g ∧ v18 = .int .i64 (i : Int) ∧ Aside0 (atIn a0 l1 a2 a3 (l1.length - i) i acc = some L) ∧ Aside0 (Kd.R (Kd.int .i64) 3 w' w.heap.size (fun _ => True) v9 acc) ∧ Aside0 (Below w.heap.size w w'))
    case atStart => exact ⟨0, [], Nat.zero_le _, by omega, rfl, H0, HN1, HB1⟩
    case round =>
      clear H0 HN1 HB1
      obtain ⟨i, acc, hi, hg, rfl, HC, HA, HBW⟩ := hrel
      by_cases hlt : i < l1.length
      · have hltz : (i : Int) < (l1.length : Int) := Int.ofNat_lt.2 hlt
        have h0z : (0 : Int) ≤ (i : Int) := Int.natCast_nonneg _
        have hC := HC.out
        rw [show l1.length - i = (l1.length - (i + 1)) + 1 by omega] at hC
        simp only [atIn] at hC
        obtain ⟨bb, hbb, hC⟩ := Option.bind_eq_some_iff.mp hC
        obtain ⟨ad, eA, x0, x1, x2, x3, x4⟩ := at_T23 (Kd.C_below HR1.out HBW.out) (i : Int) h0z hltz
        cases eA
        rw [Int.toNat_natCast] at x0 x1 x2 x3 x4
        have HLT := Aside0.mk hlt
        obtain ⟨a, hae⟩ : ∃ a, a = rd_T23 l1 (i : Int) := ⟨_, rfl⟩
        rw [← hae] at x0 x1 x2 x3 x4 hbb hC
        have HCC := Aside0.mk hC
        have HBB := Aside0.mk hbb
        clear hae hC hbb HC hlt
        have hltz' := eq_true hltz
        have h0z' := eq_true h0z
        have hlb : decide ((i : Int) < (l1.length : Int)) = true := decide_eq_true hltz
        clear hltz h0z
        go_wp2
        clear hltz' h0z' hlb x0 x1 x2 x3 x4
        have HB0 := Aside0.mk (below_alloc HBW.out (.cells #[.int .i64 a.f0, .int .i64 a.f1, .int .i64 a.f2, .int .i64 a.f3, .int .i64 a.f4] 23))
        have HA0 := Aside0.mk (Kd.R_alloc (Kd.R_mono (ok' := fun k => k ≠ wr.heap.size) (Kd.R_bound HA.out) (fun k hk => by have := hk.2; omega)) (.cells #[.int .i64 a.f0, .int .i64 a.f1, .int .i64 a.f2, .int .i64 a.f3, .int .i64 a.f4] 23))
        have HX0 : Aside0 (usBox (wr.alloc (.cells #[.int .i64 a.f0, .int .i64 a.f1, .int .i64 a.f2, .int .i64 a.f3, .int .i64 a.f4] 23)) wr.heap.size a) := ⟨by unfold usBox World.alloc; simp only [Array.getElem?_push_size]⟩
        have HG0 := Aside0.mk (below_size HBW.out)
        generalize wr.alloc (.cells #[.int .i64 a.f0, .int .i64 a.f1, .int .i64 a.f2, .int .i64 a.f3, .int .i64 a.f4] 23) = W0 at HB0 HA0 HX0 ⊢
        generalize wr.heap.size = gb at HA0 HX0 HG0 ⊢
        clear HA HBW
        obtain ⟨x0, x1, x2, x3, x4⟩ := HX0.out.cells
        have hbb := HBB.out
        clear HBB
        unfold hold at hbb
        by_cases he : a.f0 = a2
        · rw [if_pos he] at hbb
          have heb : (a.f0 == a2) = true := beq_iff_eq.mpr he
          have hed : decide (a.f0 = a2) = true := decide_eq_true he
          clear he
          by_cases h3 : a.f3 ≥ a0
          · rw [if_pos h3] at hbb
            obtain rfl := Option.some.inj hbb
            have h3b : decide (a0 ≤ a.f3) = true := decide_eq_true h3
            clear hbb h3
            go_quiet (fail)
            clear heb hed h3b
            have hC := HCC.out
            rw [if_pos rfl] at hC
            split at hC
            · rename_i hcap
              have HCN := Aside0.mk hC
              have hb8 : (acc.length + 1) * 8 ≤ 140737488355328 := by omega
              have HAq := Aside0.mk (Kd.R_drewN HA0.out nq)
              have HXq := Aside0.mk (HX0.out.below (pw_below_drewN (Below.refl _ _) nq))
              have HBq := Aside0.mk (pw_below_drewN HB0.out nq)
              generalize W0.drewN nq = W1 at HAq HXq HBq ⊢
              clear hC HCC HA0 HX0 HB0 x0 x1 x2 x3 x4 hcap
              obtain ⟨_, x1, _, _, _⟩ := HXq.out.cells
              go_wp2_with (first
                | ((with_reducible refine gate_dst (N := 51) rfl ?_); go_loud (refine Kd.R_append (Kd.int .i64) (w0 := w) w.heap.size rfl (.tmp 47) (.tmp 50) 31 3 (.int .i64 0) 8 rfl Try.underlying31 (by kernel_rfl) rfl (by decide) (by omega) u9 acc a.f1 [.int .i64 a.f1] (fun k => k ≠ gb) (fun _ => False) rfl rfl ?aP (fun _ hk => hk.elim) ?aF HAq.out HBq.out (below_size HBq.out) hb8 ?_); (case aP => exact rfl); (case aF => exact (fun k hk => by have := blk_lt HXq.out; omega)); intro v7 w7 hR7 hB7 hg7 hat7))
              have HR7 := Aside0.mk (Kd.R_mono (ok' := fun _ => True) hR7 (fun _ _ => trivial))
              have HB7 := Aside0.mk hB7
              clear x1 HXq HAq HBq hg7 hat7 hR7 hB7 hb8
              go_roundg (l1.length - (i + 1))
              case measure => have := HLT.out; omega
              case rel => exact ⟨i + 1, _, by have := HLT.out; omega, by omega, by have h1 := HL1.out; have h2 := HLT.out; rw [IntWalk.wrap64_in _ (by omega)]; rfl, HCN, HR7, HB7⟩
            · cases hC
          · rw [if_neg h3] at hbb
            obtain ⟨m1, hm1, hbb⟩ := Option.bind_eq_some_iff.mp hbb
            obtain ⟨m2, hm2, hbb⟩ := Option.bind_eq_some_iff.mp hbb
            obtain ⟨m3, hm3, hbb⟩ := Option.bind_eq_some_iff.mp hbb
            have hbb := Option.some.inj hbb
            have h3b : decide (a0 ≤ a.f3) = false := decide_eq_false h3
            have KM1 := Aside0.mk (fun (W : World) => arith_Mod.calls _ _ _ W hm1)
            have KM2 := Aside0.mk (fun (W : World) => arith_Mod.calls _ _ _ W hm2)
            have KM3 := Aside0.mk (fun (W : World) => arith_Mod.calls _ _ _ W hm3)
            clear h3 hm1 hm2 hm3
            cases bb with
            | true =>
              repeat (go_quiet (first | (go_at_call 19; first | (with_reducible refine (KM1.out _).mono ?_) | (with_reducible refine (KM2.out _).mono ?_) | (with_reducible refine (KM3.out _).mono ?_)); rintro e w' ⟨rfl, ⟨nd, rfl⟩⟩; (try first | exact ⟨rfl, _, World.drewN_drewN _ _ _⟩ | exact ⟨rfl, _, Eq.trans (World.drewN_drewN _ _ _) (congrArg (World.drewN _) (Nat.add_assoc _ _ _))⟩)))
              clear heb hed h3b hbb KM1 KM2 KM3
              have hC := HCC.out
              rw [if_pos rfl] at hC
              split at hC
              · rename_i hcap
                have HCN := Aside0.mk hC
                have hb8 : (acc.length + 1) * 8 ≤ 140737488355328 := by omega
                have HAq := Aside0.mk (Kd.R_drewN HA0.out nq)
                have HXq := Aside0.mk (HX0.out.below (pw_below_drewN (Below.refl _ _) nq))
                have HBq := Aside0.mk (pw_below_drewN HB0.out nq)
                generalize W0.drewN nq = W1 at HAq HXq HBq ⊢
                clear hC HCC HA0 HX0 HB0 x0 x1 x2 x3 x4 hcap
                obtain ⟨_, x1, _, _, _⟩ := HXq.out.cells
                go_wp2_with (first
                  | ((with_reducible refine gate_dst (N := 51) rfl ?_); go_loud (refine Kd.R_append (Kd.int .i64) (w0 := w) w.heap.size rfl (.tmp 47) (.tmp 50) 31 3 (.int .i64 0) 8 rfl Try.underlying31 (by kernel_rfl) rfl (by decide) (by omega) u9 acc a.f1 [.int .i64 a.f1] (fun k => k ≠ gb) (fun _ => False) rfl rfl ?aP (fun _ hk => hk.elim) ?aF HAq.out HBq.out (below_size HBq.out) hb8 ?_); (case aP => exact rfl); (case aF => exact (fun k hk => by have := blk_lt HXq.out; omega)); intro v7 w7 hR7 hB7 hg7 hat7))
                have HR7 := Aside0.mk (Kd.R_mono (ok' := fun _ => True) hR7 (fun _ _ => trivial))
                have HB7 := Aside0.mk hB7
                clear x1 HXq HAq HBq hg7 hat7 hR7 hB7 hb8
                go_roundg (l1.length - (i + 1))
                case measure => have := HLT.out; omega
                case rel => exact ⟨i + 1, _, by have := HLT.out; omega, by omega, by have h1 := HL1.out; have h2 := HLT.out; rw [IntWalk.wrap64_in _ (by omega)]; rfl, HCN, HR7, HB7⟩
              · cases hC
            | false =>
              repeat (go_quiet (first | (go_at_call 19; first | (with_reducible refine (KM1.out _).mono ?_) | (with_reducible refine (KM2.out _).mono ?_) | (with_reducible refine (KM3.out _).mono ?_)); rintro e w' ⟨rfl, ⟨nd, rfl⟩⟩; (try first | exact ⟨rfl, _, World.drewN_drewN _ _ _⟩ | exact ⟨rfl, _, Eq.trans (World.drewN_drewN _ _ _) (congrArg (World.drewN _) (Nat.add_assoc _ _ _))⟩)))
              clear heb hed h3b hbb KM1 KM2 KM3
              have HCN : Aside0 (atIn a0 l1 a2 a3 (l1.length - (i + 1)) (i + 1) acc = some L) := ⟨by have := HCC.out; rwa [if_neg (by decide)] at this⟩
              clear HCC x0 x1 x2 x3 x4
              go_wp2
              go_roundg (l1.length - (i + 1))
              case measure => have := HLT.out; omega
              case rel => exact ⟨i + 1, acc, by have := HLT.out; omega, by omega, by have h1 := HL1.out; have h2 := HLT.out; rw [IntWalk.wrap64_in _ (by omega)]; rfl, HCN, ⟨Kd.R_mono (Kd.R_drewN HA0.out _) (fun _ _ => trivial)⟩, ⟨pw_below_drewN HB0.out _⟩⟩
        · rw [if_neg he] at hbb
          obtain rfl := Option.some.inj hbb
          have heb : (a.f0 == a2) = false := beq_eq_false_iff_ne.mpr he
          have hed : decide (a.f0 = a2) = false := decide_eq_false he
          clear hbb he
          go_quiet (fail)
          clear heb hed
          have HCN : Aside0 (atIn a0 l1 a2 a3 (l1.length - (i + 1)) (i + 1) acc = some L) := ⟨by have := HCC.out; rwa [if_neg (by decide)] at this⟩
          clear HCC x0 x1 x2 x3 x4
          go_wp2
          go_roundg (l1.length - (i + 1))
          case measure => have := HLT.out; omega
          case rel => exact ⟨i + 1, acc, by have := HLT.out; omega, by omega, by have h1 := HL1.out; have h2 := HLT.out; rw [IntWalk.wrap64_in _ (by omega)]; rfl, HCN, ⟨Kd.R_mono (Kd.R_drewN HA0.out _) (fun _ _ => trivial)⟩, ⟨pw_below_drewN HB0.out _⟩⟩
      · have hltz : ¬ (i : Int) < (l1.length : Int) := by omega
        have hlb : decide ((i : Int) < (l1.length : Int)) = false := decide_eq_false hltz
        have hie : i = l1.length := by omega
        subst hie
        have hC := HC.out
        rw [Nat.sub_self] at hC
        simp only [atIn] at hC
        obtain rfl := Option.some.inj hC
        clear HC hC
        go_wp2_with (first
          | (go_at_call 20; (with_reducible refine (sort_R w _ _ acc HA.out HBW.out (by have := HLL.out; omega)).mono ?_); rintro e w6 ⟨rfl, hR6, hB6⟩; have HR6 := Aside0.mk hR6; have HB6 := Aside0.mk hB6; clear hR6 hB6)
          | (go_at_call 21; (with_reducible refine (compact_R w _ _ _ HR6.out HB6.out (by rw [List.length_mergeSort]; have := HLL.out; omega)).mono ?_); rintro e w7 ⟨v7, rfl, hR7, hB7⟩; have HR7 := Aside0.mk hR7; have HB7 := Aside0.mk hB7; clear hR7 hB7))
        go_ret
        exact ⟨_, rfl, HR7.out, HB7.out⟩

-- NOT PRINTED: function 3 (railplanlaw19_OccupancyExamples)

/-! ### railplankeep_Pick: function 12 -/
def railplankeep_Pick.f (a0 : Int) (a1 : Int) : Option (Int) := if (IntKind.u64.wrap (a1)) = 0 then (none) else (some (wrap64 (Int.tmod (IntKind.u64.wrap (a0)) (IntKind.u64.wrap (a1)))))
set_option maxHeartbeats 8000000 in
set_option maxRecDepth 100000 in
theorem railplankeep_Pick.calls (a0 : Int) (a1 : Int) (r : Int) (w : World) (h : railplankeep_Pick.f a0 a1 = some r) :
    Calls Try.prog 12 #[.int .i64 a0, .int .i64 a1] w fun e w' => e = .returned (.int .i64 r) ∧ Drawn0 w w' := by
  have H : (if (IntKind.u64.wrap (a1)) = 0 then (none) else (some (wrap64 (Int.tmod (IntKind.u64.wrap (a0)) (IntKind.u64.wrap (a1)))))) = some r := h
  clear h
  by_cases c3 : (IntKind.u64.wrap (a1)) = 0
  · rw [if_pos c3] at H
    exact absurd H (by simp)
  · rw [if_neg c3] at H
    have c3b0 : ((IntKind.u64.wrap (a1)) == 0) = false := beq_eq_false_iff_ne.mpr c3
    have c3b1 : ((IntKind.u64.wrap (a1)) != 0) = true := bne_iff_ne.mpr c3
    obtain rfl := Option.some.inj H
    go_enter Try.func12, Try.ntmps12
    go_wp2
    go_ret
    exact ⟨by first | rfl | (simp; done) | (simp [*]; done), by repeat (first | exact Drawn0.refl _ | apply Drawn0.step)⟩

/-! ### railplanlaw19_awake: function 13 -/
def railplanlaw19_awake.f (k : Nat)  : Option (Bool) := (some (([(⟨0, 3, 1, 2, 0⟩ : S23)] : List (S23)) : List (S23))).bind fun y246 => ((occupancy_Free.f k 5 y246).bind fun t249 => (if t249 = true then ((occupancy_At.f 5 y246 0 7).bind fun t250 => ((railplankeep_Same_int.f k t250 (([3] : List Int))).bind fun t256 => (some t256))) else (some false)))
theorem railplanlaw19_awake.mono : ∀ k, LeO (railplanlaw19_awake.f k ) (railplanlaw19_awake.f (k + 1) ) := by
  intro  k
  unfold railplanlaw19_awake.f
  repeat' first
      | (with_reducible exact occupancy_Free.mono _ _ _)
      | (with_reducible exact railplankeep_Same_int.mono _ _ _)
      | (with_reducible exact LeO.refl _)
      | (with_reducible exact LeO.none _)
      | (with_reducible refine LeO.ite ?_ ?_)
      | (with_reducible refine LeO.bind ?_ (fun _ => ?_))
      | exact occupancy_Free.mono _ _ _
      | exact railplankeep_Same_int.mono _ _ _
      | exact LeO.none _
      | refine LeO.ite ?_ ?_
      | refine LeO.bind ?_ (fun _ => ?_)
set_option maxHeartbeats 8000000 in
set_option maxRecDepth 100000 in
theorem railplanlaw19_awake.calls (k : Nat)  (r : Bool) (w : World) (h : railplanlaw19_awake.f k  = some r) :
    Calls Try.prog 13 #[] w fun e w' => e = .returned (.bool r) ∧ Below w.heap.size w w' := by
  have hu23 := Try.underlying23
  have HB := Aside0.mk (Below.refl w.heap.size w)
  have H : ((some (([(⟨0, 3, 1, 2, 0⟩ : S23)] : List (S23)) : List (S23))).bind fun y246 => ((occupancy_Free.f k 5 y246).bind fun t249 => (if t249 = true then ((occupancy_At.f 5 y246 0 7).bind fun t250 => ((railplankeep_Same_int.f k t250 (([3] : List Int))).bind fun t256 => (some t256))) else (some false)))) = some r := h
  clear h
  obtain ⟨y246, hy246⟩ : ∃ y_ : List (S23), y_ = (([(⟨0, 3, 1, 2, 0⟩ : S23)] : List (S23))) := ⟨_, rfl⟩
  replace H : ((occupancy_Free.f k 5 y246).bind fun t249 => (if t249 = true then ((occupancy_At.f 5 y246 0 7).bind fun t250 => ((railplankeep_Same_int.f k t250 (([3] : List Int))).bind fun t256 => (some t256))) else (some false))) = some r := by first | (rw [hy246]; with_reducible exact H) | (have H2_ := (Option.bind_some _ _).symm.trans H; rw [hy246]; with_reducible exact H2_) | (have H2_ := (Option.bind_some _ _).symm.trans H; with_reducible exact H2_) | with_reducible exact H | (rw [hy246]; exact H) | exact H
  have Ny246 := Aside0.mk hy246
  clear hy246
  replace H := Option.bind_eq_some_iff.mp H
  obtain ⟨t249, A10, H⟩ := H
  replace H : (if t249 = true then ((occupancy_At.f 5 y246 0 7).bind fun t250 => ((railplankeep_Same_int.f k t250 (([3] : List Int))).bind fun t256 => (some t256))) else (some false)) = some r := H
  have A1 := Aside0.mk A10
  clear A10
  by_cases c2 : t249 = true
  · subst c2
    have H1 : ((occupancy_At.f 5 y246 0 7).bind fun t250 => ((railplankeep_Same_int.f k t250 (([3] : List Int))).bind fun t256 => (some t256))) = some r := by rw [if_pos rfl] at H; exact H
    clear H
    have H := H1
    clear H1
    replace H := Option.bind_eq_some_iff.mp H
    obtain ⟨t250, A30, H⟩ := H
    replace H : ((railplankeep_Same_int.f k t250 (([3] : List Int))).bind fun t256 => (some t256)) = some r := H
    have A3 := Aside0.mk A30
    clear A30
    obtain ⟨y253, hy253⟩ : ∃ y_ : List Int, y_ = (([3] : List Int)) := ⟨_, rfl⟩
    replace H : ((railplankeep_Same_int.f k t250 y253).bind fun t256 => (some t256)) = some r := by first | (rw [hy253]; with_reducible exact H) | (have H2_ := (Option.bind_some _ _).symm.trans H; rw [hy253]; with_reducible exact H2_) | (have H2_ := (Option.bind_some _ _).symm.trans H; with_reducible exact H2_) | with_reducible exact H | (rw [hy253]; exact H) | exact H
    have Ny253 := Aside0.mk hy253
    clear hy253
    replace H := Option.bind_eq_some_iff.mp H
    obtain ⟨t256, A40, H⟩ := H
    replace H : (some t256) = some r := H
    have A4 := Aside0.mk A40
    clear A40
    obtain rfl := Option.some.inj H
    go_enter Try.func13, Try.ntmps13
    go_wp2_with (first | ((with_reducible refine gate_dst (N := 3) rfl ?_); (try (refine gate_guard (by rfl) ?_; dsimp only)); refine Kd.R_lit k23 _ 23 ?hg (N := 3) ?hd (xs := ([(⟨0, 3, 1, 2, 0⟩ : S23)] : List (S23))) (inner := [.int .i64 0, .int .i64 3, .int .i64 1, .int .i64 2, .int .i64 0]) (ok := fun _ => True) (okp := fun _ => True) ?hr ?hp (fun _ hk => hk) trivial (Below.refl _ _) (Nat.le_refl _) (by simp) ?_; (case hd => rfl); (case hg => rfl); (case hr => first | (go_simp; done) | (go_simp; rfl)); (case hp => exact (Reps.c5 (show Kd.M k23 _ _ _ (⟨0, 3, 1, 2, 0⟩ : S23) [.int .i64 0, .int .i64 3, .int .i64 1, .int .i64 2, .int .i64 0] from (k23_mkM _ _ _ (⟨0, 3, 1, 2, 0⟩ : S23) )) (Reps.none _ _))); intro v247 w5 ho6 hb hg_ hnew_; clear hg_ hnew_; (first | rw [← Ny246.out] at ho6 | (simp only [Int.reduceToNat] at ho6; rw [← Ny246.out] at ho6)); have n0_ := Aside0.mk (Kd.R_lower ho6 (below_size (by repeat (first | (with_reducible first | exact HB.out | apply below_alloc | apply pw_below_drewN | apply below_drew1) | exact HB.out)))); have n1_ := Aside0.mk (below_step (by repeat (first | (with_reducible first | exact HB.out | apply below_alloc | apply pw_below_drewN | apply below_drew1) | exact HB.out)) hb); clear HB; have HO248 := n0_; have HB := n1_; clear n0_ n1_; clear hb ho6; obtain ⟨Ao7, co7, eo7⟩ := Kd.R_slice HO248.out; subst eo7) | ((with_reducible refine gate_callee (f := 9) rfl ?_); refine goesL_ (some 5) rfl rfl Try.func9 (by kernel_rfl) rfl #[.int .i64 5, .slice Ao7 y246.length co7] rfl (by (try simp only [List.map_toArray, List.map_cons, List.map_nil]); first | done | rfl | (simp only [List.length_drop, List.length_take]; rfl)) ?_; (with_reducible refine (occupancy_Free.calls k 5 _ _ y246 true _ ?side1 ?side2 A1.out).mono ?_); (case side1 => repeat (first | exact (Kd.R_reads' HO248.out).2.2 | (with_reducible refine Kd.C_alloc ?_ _) | (with_reducible refine Kd.C_drewN ?_ _) | (with_reducible refine Kd.C_drew ?_))); (case side2 => exact (Kd.R_reads' HO248.out).2.1); rintro e w8 ⟨rfl, hb⟩; refine ⟨_, rfl, ?_⟩; have n0_ := Aside0.mk (Kd.R_below (by (with_reducible repeat (first | apply Kd.R_alloc | apply Kd.R_drewN | apply Kd.R_drew)); exact HO248.out) hb); have n1_ := Aside0.mk (below_step (by repeat (first | (with_reducible first | exact HB.out | apply below_alloc | apply pw_below_drewN | apply below_drew1) | exact HB.out)) hb); clear HO248; clear HB; have HO248 := n0_; have HB := n1_; clear n0_ n1_; (try clear hb); (try clear hb2); (try clear hk); (try clear hi)) | (go_at_call 11; (with_reducible refine (occupancy_At.calls 5 _ _ y246 0 7 t250 _ ?side1 ?side2 A3.out).mono ?_); (case side1 => repeat (first | exact (Kd.R_reads' HO248.out).2.2 | (with_reducible refine Kd.C_alloc ?_ _) | (with_reducible refine Kd.C_drewN ?_ _) | (with_reducible refine Kd.C_drew ?_))); (case side2 => exact (Kd.R_reads' HO248.out).2.1); rintro e w9 ⟨v251, rfl, ho0, hb⟩; have n0_ := Aside0.mk (Kd.R_below (by (with_reducible repeat (first | apply Kd.R_alloc | apply Kd.R_drewN | apply Kd.R_drew)); exact HO248.out) hb); have n1_ := Aside0.mk (Kd.R_lower ho0 (below_size (by repeat (first | (with_reducible first | exact HB.out | apply below_alloc | apply pw_below_drewN | apply below_drew1) | exact HB.out)))); have n2_ := Aside0.mk (below_step (by repeat (first | (with_reducible first | exact HB.out | apply below_alloc | apply pw_below_drewN | apply below_drew1) | exact HB.out)) hb); clear HO248; clear HB; have HO248 := n0_; have HO252 := n1_; have HB := n2_; clear n0_ n1_ n2_; (try clear hb); (try clear hb2); (try clear hk); (try clear hi); (try clear ho0)) | ((with_reducible refine gate_dst (N := 9) rfl ?_); (try (refine gate_guard (by rfl) ?_; dsimp only)); refine Kd.R_lit (Kd.int .i64) _ 3 ?hg (N := 9) ?hd (xs := ([3] : List Int)) (inner := [.int .i64 3]) (ok := fun _ => True) (okp := fun _ => True) ?hr ?hp (fun _ hk => hk) trivial (Below.refl _ _) (Nat.le_refl _) (by simp) ?_; (case hd => rfl); (case hg => rfl); (case hr => first | (go_simp; done) | (go_simp; rfl)); (case hp => exact (Reps.one (show Kd.M (Kd.int .i64) _ _ _ 3 [.int .i64 3] from rfl) (Reps.none _ _))); intro v254 w10 ho11 hb hg_ hnew_; clear hg_ hnew_; (first | rw [← Ny253.out] at ho11 | (simp only [Int.reduceToNat] at ho11; rw [← Ny253.out] at ho11)); have n0_ := Aside0.mk (Kd.R_below (by (with_reducible repeat (first | apply Kd.R_alloc | apply Kd.R_drewN | apply Kd.R_drew)); exact HO248.out) hb); have n1_ := Aside0.mk (Kd.R_elder' (by (with_reducible repeat (first | apply Kd.R_alloc | apply Kd.R_drewN | apply Kd.R_drew)); exact HO252.out) (Kd.R_base ho11) hb); have n2_ := Aside0.mk (Kd.R_lower (Kd.R_new' ho11 (Kd.R_lt (by (with_reducible repeat (first | apply Kd.R_alloc | apply Kd.R_drewN | apply Kd.R_drew)); exact HO252.out))) (below_size (by repeat (first | (with_reducible first | exact HB.out | apply below_alloc | apply pw_below_drewN | apply below_drew1) | exact HB.out)))); have n3_ := Aside0.mk (below_step (by repeat (first | (with_reducible first | exact HB.out | apply below_alloc | apply pw_below_drewN | apply below_drew1) | exact HB.out)) hb); clear HO248; clear HO252; clear HB; have HO248 := n0_; have HO252 := n1_; have HO255 := n2_; have HB := n3_; clear n0_ n1_ n2_ n3_; clear hb ho11; obtain ⟨Ao12, co12, eo12⟩ := Kd.R_slice HO252.out; subst eo12; obtain ⟨Ao13, co13, eo13⟩ := Kd.R_slice HO255.out; subst eo13) | (go_at_call 10; (with_reducible refine (railplankeep_Same_int.calls k _ _ t250 _ _ y253 t256 _ ?side1 ?side2 ?side3 ?side4 A4.out).mono ?_); (case side1 => repeat (first | exact (Kd.R_reads' HO252.out).2.2 | (with_reducible refine Kd.C_alloc ?_ _) | (with_reducible refine Kd.C_drewN ?_ _) | (with_reducible refine Kd.C_drew ?_))); (case side2 => exact (Kd.R_reads' HO252.out).2.1); (case side3 => repeat (first | exact (Kd.R_reads' HO255.out).2.2 | (with_reducible refine Kd.C_alloc ?_ _) | (with_reducible refine Kd.C_drewN ?_ _) | (with_reducible refine Kd.C_drew ?_))); (case side4 => exact (Kd.R_reads' HO255.out).2.1); rintro e w' ⟨rfl, ⟨nd, rfl⟩⟩))
    go_ret
    exact ⟨by first | rfl | (simp [errW_none, errW_some] <;> rfl) | (simp [*, errW_none, errW_some] <;> rfl), by repeat (first | (with_reducible first | exact HB.out | apply below_alloc | apply pw_below_drewN | apply below_drew1) | exact HB.out)⟩
  · replace c2 := Bool.eq_false_iff.mpr c2
    subst c2
    have H1 : (some false) = some r := by rw [if_neg (show ¬ (false = true) by decide)] at H; exact H
    clear H
    have H := H1
    clear H1
    obtain rfl := Option.some.inj H
    go_enter Try.func13, Try.ntmps13
    go_wp2_with (first | ((with_reducible refine gate_dst (N := 3) rfl ?_); (try (refine gate_guard (by rfl) ?_; dsimp only)); refine Kd.R_lit k23 _ 23 ?hg (N := 3) ?hd (xs := ([(⟨0, 3, 1, 2, 0⟩ : S23)] : List (S23))) (inner := [.int .i64 0, .int .i64 3, .int .i64 1, .int .i64 2, .int .i64 0]) (ok := fun _ => True) (okp := fun _ => True) ?hr ?hp (fun _ hk => hk) trivial (Below.refl _ _) (Nat.le_refl _) (by simp) ?_; (case hd => rfl); (case hg => rfl); (case hr => first | (go_simp; done) | (go_simp; rfl)); (case hp => exact (Reps.c5 (show Kd.M k23 _ _ _ (⟨0, 3, 1, 2, 0⟩ : S23) [.int .i64 0, .int .i64 3, .int .i64 1, .int .i64 2, .int .i64 0] from (k23_mkM _ _ _ (⟨0, 3, 1, 2, 0⟩ : S23) )) (Reps.none _ _))); intro v247 w14 ho15 hb hg_ hnew_; clear hg_ hnew_; (first | rw [← Ny246.out] at ho15 | (simp only [Int.reduceToNat] at ho15; rw [← Ny246.out] at ho15)); have n0_ := Aside0.mk (Kd.R_lower ho15 (below_size (by repeat (first | (with_reducible first | exact HB.out | apply below_alloc | apply pw_below_drewN | apply below_drew1) | exact HB.out)))); have n1_ := Aside0.mk (below_step (by repeat (first | (with_reducible first | exact HB.out | apply below_alloc | apply pw_below_drewN | apply below_drew1) | exact HB.out)) hb); clear HB; have HO248 := n0_; have HB := n1_; clear n0_ n1_; clear hb ho15; obtain ⟨Ao16, co16, eo16⟩ := Kd.R_slice HO248.out; subst eo16) | ((with_reducible refine gate_callee (f := 9) rfl ?_); refine goesL_ (some 5) rfl rfl Try.func9 (by kernel_rfl) rfl #[.int .i64 5, .slice Ao16 y246.length co16] rfl (by (try simp only [List.map_toArray, List.map_cons, List.map_nil]); first | done | rfl | (simp only [List.length_drop, List.length_take]; rfl)) ?_; (with_reducible refine (occupancy_Free.calls k 5 _ _ y246 false _ ?side1 ?side2 A1.out).mono ?_); (case side1 => repeat (first | exact (Kd.R_reads' HO248.out).2.2 | (with_reducible refine Kd.C_alloc ?_ _) | (with_reducible refine Kd.C_drewN ?_ _) | (with_reducible refine Kd.C_drew ?_))); (case side2 => exact (Kd.R_reads' HO248.out).2.1); rintro e w17 ⟨rfl, hb⟩; refine ⟨_, rfl, ?_⟩; have n0_ := Aside0.mk (Kd.R_below (by (with_reducible repeat (first | apply Kd.R_alloc | apply Kd.R_drewN | apply Kd.R_drew)); exact HO248.out) hb); have n1_ := Aside0.mk (below_step (by repeat (first | (with_reducible first | exact HB.out | apply below_alloc | apply pw_below_drewN | apply below_drew1) | exact HB.out)) hb); clear HO248; clear HB; have HO248 := n0_; have HB := n1_; clear n0_ n1_; (try clear hb); (try clear hb2); (try clear hk); (try clear hi)))
    go_ret
    exact ⟨by first | rfl | (simp [errW_none, errW_some] <;> rfl) | (simp [*, errW_none, errW_some] <;> rfl), by repeat (first | (with_reducible first | exact HB.out | apply below_alloc | apply pw_below_drewN | apply below_drew1) | exact HB.out)⟩

/-- A state of type 57 at block g of W; what its slices lead to came in by w0. -/
def IsS57 (w0 W : World) (g : Nat) (f0 : List Int) (f1 : Int) : Prop := ∃ A0 c0, W.heap[g]? = some (.cells #[.slice A0 f0.length c0, .int .i64 f1] 57 (0, 0)) ∧ w0.heap.size ≤ g ∧ Kd.C (Kd.int .i64) w0 A0 f0.length f0
theorem IsS57.grown {w0 W : World} {g : Nat} {f0 : List Int} {f1 : Int} {W1 : World} {row : Option Nat} (h : IsS57 w0 W g f0 f1) (hw : W.grownBy W1 row) (hne : some g ≠ row) : IsS57 w0 W1 g f0 f1 := by
  obtain ⟨A0, c0, hb, hg, hr0⟩ := h
  exact ⟨A0, c0, blk_grown hb hw hne, hg, hr0⟩
theorem IsS57.own_neN {w0 W : World} {g : Nat} {f0 : List Int} {f1 : Int} {α : Type} {d : Kd α} {e : Nat} {base : Nat} {ok : Nat → Prop} {v : Value} {xs : List α} (h : IsS57 w0 W g f0 f1) (ho : Kd.N d e W base ok v xs) (ht : e ≠ 57) : some g ≠ v.ownBlock := by
  obtain ⟨A0, c0, hb, hg, hr0⟩ := h
  exact Kd.N_ne ho hb ht
theorem IsS57.fresh {w0 W : World} {g : Nat} {f0 : List Int} {f1 : Int} (h : IsS57 w0 W g f0 f1) : ∀ k, W.heap.size ≤ k → k ≠ g := by
  obtain ⟨A0, c0, hb, hg, hr0⟩ := h
  exact Kd.freshB hb
theorem IsS57.kept {w0 W : World} {g : Nat} {f0 : List Int} {f1 : Int} {W1 : World} {S : Nat → Prop} (h : IsS57 w0 W g f0 f1) (hk : Kept W W1 S) (hne : ¬ S g) : IsS57 w0 W1 g f0 f1 := by
  obtain ⟨A0, c0, hb, hg, hr0⟩ := h
  exact ⟨A0, c0, blk_kept hb hk hne, hg, hr0⟩
theorem IsS57.below {w0 W : World} {g : Nat} {f0 : List Int} {f1 : Int} {W1 : World} (h : IsS57 w0 W g f0 f1) (hw : Below W.heap.size W W1) : IsS57 w0 W1 g f0 f1 := h.grown (grown_of_below hw none) (by simp)
theorem IsS57.alloc {w0 W : World} {g : Nat} {f0 : List Int} {f1 : Int} (h : IsS57 w0 W g f0 f1) (o : Obj) : IsS57 w0 (W.alloc o) g f0 f1 := h.below (below_alloc (Below.refl _ _) o)
theorem IsS57.drewN {w0 W : World} {g : Nat} {f0 : List Int} {f1 : Int} (h : IsS57 w0 W g f0 f1) (m : Nat) : IsS57 w0 (W.drewN m) g f0 f1 := h
theorem IsS57.drew {w0 W : World} {g : Nat} {f0 : List Int} {f1 : Int} (h : IsS57 w0 W g f0 f1) : IsS57 w0 W.drew g f0 f1 := h
theorem IsS57.at_ {w0 W : World} {g : Nat} {f0 : List Int} {f1 : Int} {w' : World} {m : Nat} (hq : W.drewN m = w') (h : IsS57 w0 W g f0 f1) : IsS57 w0 w' g f0 f1 := by subst hq; exact IsS57.drewN h m
theorem IsS57.apart {w0 W : World} {g : Nat} {f0 : List Int} {f1 : Int} {α : Type} {d : Kd α} {e : Nat} {base : Nat} {ok : Nat → Prop} {v : Value} {xs : List α} (h : IsS57 w0 W g f0 f1) (ho : d.R e W base ok v xs) (ht : ∀ q, q ∈ e :: d.E → q ≠ 57) : d.R e W base (fun k => ok k ∧ k ≠ g) v xs := by
  obtain ⟨A0, c0, hb, hg, hr0⟩ := h
  exact Kd.R_types ho hb ht
theorem IsS57.own_ne {w0 W : World} {g : Nat} {f0 : List Int} {f1 : Int} {α : Type} {d : Kd α} {e : Nat} {base : Nat} {ok : Nat → Prop} {v : Value} {xs : List α} (h : IsS57 w0 W g f0 f1) (ho : d.R e W base ok v xs) (ht : e ≠ 57) : some g ≠ v.ownBlock := by
  obtain ⟨A0, c0, hb, hg, hr0⟩ := h
  exact Kd.R_ne ho hb ht
theorem IsS57.apartQ {w0 W : World} {g : Nat} {f0 : List Int} {f1 : Int} {α : Type} {d : Kd α} {e : Nat} {base : Nat} {ok : Nat → Prop} {v : Value} {xs : List α} (h : IsS57 w0 W g f0 f1) (ho : d.Q e W base ok v xs) (ht : ∀ q, q ∈ e :: d.E → q ≠ 57) : d.Q e W base (fun k => ok k ∧ k ≠ g) v xs := by
  obtain ⟨A0, c0, hb, hg, hr0⟩ := h
  exact Kd.Q_types ho hb ht
theorem IsS57.own_neQ {w0 W : World} {g : Nat} {f0 : List Int} {f1 : Int} {α : Type} {d : Kd α} {e : Nat} {base : Nat} {ok : Nat → Prop} {v : Value} {xs : List α} (h : IsS57 w0 W g f0 f1) (ho : d.Q e W base ok v xs) (ht : e ≠ 57) : some g ≠ v.ownBlock := by
  obtain ⟨A0, c0, hb, hg, hr0⟩ := h
  exact Kd.Q_ne ho hb ht
theorem IsS57.apartS {w0 W : World} {g : Nat} {f0 : List Int} {f1 : Int} {α : Type} {d : Kd α} {e : Nat} {base : Nat} {ok : Nat → Prop} {v : Value} {xs : List α} (h : IsS57 w0 W g f0 f1) (ho : d.S e W base ok v xs) (ht : ∀ q, q ∈ e :: d.E → q ≠ 57) : d.S e W base (fun k => ok k ∧ k ≠ g) v xs := by
  obtain ⟨A0, c0, hb, hg, hr0⟩ := h
  exact Kd.S_types ho hb ht
theorem IsS57.own_neS {w0 W : World} {g : Nat} {f0 : List Int} {f1 : Int} {α : Type} {d : Kd α} {e : Nat} {base : Nat} {ok : Nat → Prop} {v : Value} {xs : List α} (h : IsS57 w0 W g f0 f1) (ho : d.S e W base ok v xs) (ht : e ≠ 57) : some g ≠ v.ownBlock := by
  obtain ⟨A0, c0, hb, hg, hr0⟩ := h
  exact Kd.S_ne ho hb ht
theorem IsS57.lt {w0 W : World} {g : Nat} {f0 : List Int} {f1 : Int} (h : IsS57 w0 W g f0 f1) : g < W.heap.size := by
  obtain ⟨A0, c0, hb, hg, hr0⟩ := h
  exact blk_lt hb
theorem IsS57.ge {w0 W : World} {g : Nat} {f0 : List Int} {f1 : Int} (h : IsS57 w0 W g f0 f1) : w0.heap.size ≤ g := by
  obtain ⟨A0, c0, hb, hg, hr0⟩ := h
  exact hg
theorem IsS57.ne_blk {w0 W : World} {g : Nat} {f0 : List Int} {f1 : Int} {a : Nat} {cs : Array Value} {t : TypeId} {fr : Nat × Nat} (h : IsS57 w0 W g f0 f1) (hb2 : W.heap[a]? = some (.cells cs t fr)) (ht : t ≠ 57) : g ≠ a := by
  obtain ⟨A0, c0, hb, hg, hr0⟩ := h
  rintro rfl
  rw [hb] at hb2
  injection hb2 with hb2
  injection hb2 with _ ht2
  exact ht ht2.symm
theorem IsS57.far {w0 W : World} {g : Nat} {f0 : List Int} {f1 : Int} {p : Addr} (h : IsS57 w0 W g f0 f1) (hne : g ≠ p.block) (u : Value) : IsS57 w0 (W.setCell p u) g f0 f1 := by
  obtain ⟨A0, c0, hb, hg, hr0⟩ := h
  exact ⟨A0, c0, blk_far hb hne u, hg, hr0⟩
theorem cellS57_0 {W : World} {g : Nat} {A0 : Option Addr} {c0 : Nat} {f0 : List Int} {f1 : Int} (h : W.heap[g]? = some (.cells #[.slice A0 f0.length c0, .int .i64 f1] 57 (0, 0))) : W.cell? ⟨g, 0, none⟩ = some (.slice A0 f0.length c0) := (blk_cell h 0).trans rfl
theorem cellS57_1 {W : World} {g : Nat} {A0 : Option Addr} {c0 : Nat} {f0 : List Int} {f1 : Int} (h : W.heap[g]? = some (.cells #[.slice A0 f0.length c0, .int .i64 f1] 57 (0, 0))) : W.cell? ⟨g, 1, none⟩ = some (.int .i64 f1) := (blk_cell h 1).trans rfl
theorem IsS57.set_1 {w0 W : World} {g : Nat} {f0 : List Int} {f1 : Int} (h : IsS57 w0 W g f0 f1) (x : Int) : IsS57 w0 (W.setCell ⟨g, 1, none⟩ (.int .i64 x)) g f0 x := by
  obtain ⟨A0, c0, hb, hg, hr0⟩ := h
  exact ⟨A0, c0, by simpa using blk_set hb 1 (.int .i64 x), hg, hr0⟩
theorem IsS57.new (w0 W : World) (A0 : Option Addr) (c0 : Nat) (f0 : List Int) (f1 : Int) (hB : Below w0.heap.size w0 W) (hr0 : Kd.C (Kd.int .i64) w0 A0 f0.length f0) : IsS57 w0 (W.alloc (.cells #[.slice A0 f0.length c0, .int .i64 f1] 57)) W.heap.size f0 f1 := ⟨A0, c0, by simpa using heap_alloc_new W _, hB.size, hr0⟩

/-! ### railplankeep_From: function 26 -/
def railplankeep_From.f (l0 : List Int) : Option (List Int × Int) := some (l0, 0)
set_option maxHeartbeats 8000000 in
set_option maxRecDepth 100000 in
theorem railplankeep_From.calls (A0 : Option Addr) (c0 : Nat) (l0 : List Int) (r1 : List Int) (r2 : Int) (w0 w : World) (hB : Below w0.heap.size w0 w) (hr0 : Kd.C (Kd.int .i64) w0 A0 l0.length l0) (hc0 : l0.length ≤ c0) (h : railplankeep_From.f l0 = some (r1, r2)) :
    Calls Try.prog 26 #[.slice A0 l0.length c0] w fun e w' => ∃ g_ : Nat, e = .returned (.pointer (some ⟨g_, 0, none⟩)) ∧ IsS57 w0 w' g_ r1 r2 ∧ Below w0.heap.size w0 w' ∧ Below w.heap.size w w' := by
  have hu57 := Try.underlying57
  have HR0 := Aside0.mk hr0
  have HC0 := Aside0.mk hc0
  clear hr0 hc0
  have HBW := Aside0.mk (Below.refl w.heap.size w)
  have HW0 := Aside0.mk hB.size
  have HB := Aside0.mk hB
  clear hB
  have H : (some (l0, 0)) = some (r1, r2) := h
  clear h
  simp only [Option.some.injEq, Prod.mk.injEq] at H
  obtain ⟨rfl, rfl⟩ := H
  go_enter Try.func26, Try.ntmps26
  go_wp2_with (first | ((with_reducible refine gate_dst (N := 5) rfl ?_); refine box_event ?hg (N := 5) ?hd (cs := #[.slice A0 l0.length c0, .int .i64 0]) (t := 57) ?hr ?_; (case hd => rfl); (case hg => rfl); (case hr => first | (go_simp; done) | (go_simp; rfl)); intro gb257 hg w2 hbox hb; have n0_ := Aside0.mk (below_step HBW.out hb); have n1_ := Aside0.mk (below_step (by repeat (first | (with_reducible first | exact HB.out | apply below_alloc | apply pw_below_drewN | apply below_drew1) | exact HB.out)) hb); have n2_ := Aside0.mk (hbox); have n3_ := Aside0.mk ((by rw [hg]; exact (below_size (by repeat (first | (with_reducible first | exact HBW.out | apply below_alloc | apply pw_below_drewN | apply below_drew1) | exact HBW.out))) : w.heap.size ≤ gb257)); have n4_ := Aside0.mk ((Nat.le_trans HW0.out (by rw [hg]; exact (below_size (by repeat (first | (with_reducible first | exact HBW.out | apply below_alloc | apply pw_below_drewN | apply below_drew1) | exact HBW.out))) : w.heap.size ≤ gb257) : w0.heap.size ≤ gb257)); clear HBW; clear HB; have HBW := n0_; have HB := n1_; have BK257 := n2_; have GW257 := n3_; have GE257 := n4_; clear n0_ n1_ n2_ n3_ n4_; clear hb hbox hg))
  go_ret
  exact ⟨_, rfl, (show IsS57 w0 _ gb257 l0 0 from ⟨_, _, by (with_reducible repeat (first | refine blk_drewN ?_ _ | refine blk_drew ?_ | refine blk_alloc ?_ _)); exact BK257.out, GE257.out, HR0.out⟩), by repeat (first | (with_reducible first | exact HB.out | apply below_alloc | apply pw_below_drewN | apply below_drew1 | refine below_set ?_ GE257.out) | exact HB.out), by repeat (first | (with_reducible first | exact HBW.out | apply below_alloc | apply pw_below_drewN | apply below_drew1 | refine below_set ?_ GW257.out) | exact HBW.out)⟩

end Go.Proofs.Ytjbemmngnigaiaa.PAll
