/- What calls of the Go functions below do, each under the premises that its theorem states. Laid by a program of the claimant, which drives the kit's print; some texts are written by hand. -/
import Derived.Test.YtjbemmngnigaiaaPAllx0
import Derived.Test.YtjbemmngnigaiaaPAllxf17
import Derived.Test.YtjbemmngnigaiaaPAllxf18
import Derived.Test.YtjbemmngnigaiaaPAllxf9
namespace Go.Proofs.Ytjbemmngnigaiaa.PAll
open Go.RowKit Go.Proofs.YtjbemmngnigaiaaW.PrintWords Go.Proofs.YtjbemmngnigaiaaW.PrintLast Go.Proofs.YtjbemmngnigaiaaW.PrintMore
attribute [local go_sem] max2_int min2_int max_two min_two max_three min_three max_four min_four   -- for this text's walks alone
set_option linter.unusedVariables false
set_option linter.unusedSimpArgs false

-- NOT PRINTED: function 46 (slices_partitionOrdered_int)

-- NOT PRINTED: function 32 (slices_pdqsortOrdered_int)

-- NOT PRINTED: function 20 (slices_Sort_int_int)

-- NOT PRINTED: function 21 (slices_Compact_int_int)

/-- Cells put into a row from o on. -/
def putI : Array Value → Nat → List Value → Array Value
  | c, _, [] => c
  | c, o, v :: r => putI (c.setIfInBounds o v) (o + 1) r
theorem putI_size : ∀ (vs : List Value) (c : Array Value) (o : Nat), (putI c o vs).size = c.size
  | [], _, _ => rfl
  | v :: r, c, o => by simp [putI, putI_size r]
theorem putI_get : ∀ (vs : List Value) (c : Array Value) (o k : Nat), o + vs.length ≤ c.size → (putI c o vs)[k]? = if o ≤ k ∧ k < o + vs.length then vs[k - o]? else c[k]?
  | [], c, o, k, _ => by
    rw [if_neg (by rw [List.length_nil]; omega)]; rfl
  | v :: r, c, o, k, h => by
    rw [List.length_cons] at h
    show (putI (c.setIfInBounds o v) (o + 1) r)[k]? = _
    rw [putI_get r _ (o + 1) k (by simp; omega)]
    by_cases h1 : k = o
    · subst h1
      rw [if_neg (by omega), if_pos (by rw [List.length_cons]; omega), Nat.sub_self, Array.getElem?_setIfInBounds_self_of_lt (by omega)]
      rfl
    · by_cases h2 : o + 1 ≤ k ∧ k < o + 1 + r.length
      · rw [if_pos h2, if_pos (by rw [List.length_cons]; omega), show k - o = k - (o + 1) + 1 by omega]
        rfl
      · rw [if_neg h2, if_neg (by rw [List.length_cons]; omega), Array.getElem?_setIfInBounds_ne (by omega)]
theorem blk_putI {g : Nat} {t : TypeId} : ∀ (vs : List Value) (o : Nat) (w : World) (cs : Array Value), w.heap[g]? = some (.cells cs t (0, 0)) → (w.setCells g o vs).heap[g]? = some (.cells (putI cs o vs) t (0, 0))
  | [], _, _, _, h => h
  | v :: r, o, w, cs, h => blk_putI r (o + 1) _ _ (blk_set h o v)
theorem below_setCells {w0 : World} {g : Nat} (hg : w0.heap.size ≤ g) : ∀ (vs : List Value) (o : Nat) (w : World), Below w0.heap.size w0 w → Below w0.heap.size w0 (w.setCells g o vs)
  | [], _, _, h => h
  | v :: r, o, w, h => below_setCells hg r (o + 1) _ (below_set h hg)
theorem R_put {W : World} {base g cap : Nat} {cur : Array Value} (hbg : base ≤ g) (hblk : W.heap[g]? = some (.cells cur 3 (0, 0))) (hcm : cap ≤ maxLen) (hcs : cur.size = cap) (vs : List Int) (m : Nat) (hm : m ≤ vs.length) (hv : vs.length ≤ cap) :
    Kd.R (Kd.int .i64) 3 (W.setCells g 0 (vs.map (Value.int .i64))) base (fun _ => True) (.slice (some ⟨g, 0, none⟩) m cap) (vs.take m) := by
  have hl : (vs.take m).length = m := by rw [List.length_take]; omega
  refine Kd.R_of_own ?_ (fun _ _ => trivial)
  rw [hl]
  refine ⟨by rw [encs_length, hl]; omega, .inr ⟨g, cap, _, rfl, hbg, blk_putI _ _ _ _ hblk, by omega, hcm, by rw [putI_size, hcs]; omega, ?_⟩⟩
  apply List.ext_getElem?
  intro k
  rw [Nat.mul_one]
  rcases Nat.lt_or_ge k m with hk | hk
  · rw [List.getElem?_take_of_lt hk, Array.getElem?_toList, putI_get _ _ _ _ (by rw [List.length_map]; omega), if_pos (by rw [List.length_map]; omega)]
    simp only [encs, List.getElem?_map, Nat.sub_zero]
    rw [List.getElem?_take_of_lt hk]
  · rw [List.getElem?_eq_none (by rw [List.length_take]; omega), List.getElem?_eq_none (by rw [encs_length, hl]; omega)]
theorem R_cells {W : World} {base : Nat} {v : Value} {L : List Int} (hR : Kd.R (Kd.int .i64) 3 W base (fun _ => True) v L) (h0 : 0 < L.length) : ∃ (g cap : Nat) (cur : Array Value), v = .slice (some ⟨g, 0, none⟩) L.length cap ∧ base ≤ g ∧ W.heap[g]? = some (.cells cur 3 (0, 0)) ∧ L.length ≤ cap ∧ cap ≤ maxLen ∧ cur.size = cap ∧ (∀ j, j < L.length → W.cell? ⟨g, 0 + j, none⟩ = some (.int .i64 (L.getD j 0))) ∧ ∀ j, j < L.length → W.frozen? ⟨g, 0 + j, none⟩ = false := by
  obtain ⟨hn0, hown⟩ := Kd.own_of_R hR
  rcases hown with ⟨_, hz⟩ | ⟨g, cap, cur, hv, hbg, hblk, hnc, hcm, hcs, htk⟩
  · omega
  · refine ⟨g, cap, cur, hv, hbg, hblk, hnc, hcm, by omega, fun j hj => ?_, fun j hj => blk_frozen hblk _⟩
    rw [Nat.zero_add, blk_cell hblk]
    have e1 : (cur.toList.take (L.length * 1))[j]? = some (.int .i64 (L.getD j 0)) := by
      rw [htk]
      simp [encs, List.getElem?_eq_getElem hj, List.getD_eq_getElem?_getD]
    rw [Nat.mul_one, List.getElem?_take_of_lt hj, Array.getElem?_toList] at e1
    exact e1
theorem R_zero {W : World} {base : Nat} {v : Value} {L : List Int} (hR : Kd.R (Kd.int .i64) 3 W base (fun _ => True) v L) (h0 : L.length = 0) : ∃ (A : Option Addr) (c : Nat), v = .slice A 0 c := by
  obtain ⟨A, c, e⟩ := Kd.R_slice hR
  exact ⟨A, c, by rw [e, h0]⟩
open Go.Shelf in
theorem sort_R (w0 W : World) (v : Value) (L : List Int) (hR : Kd.R (Kd.int .i64) 3 W w0.heap.size (fun _ => True) v L) (HB : Below w0.heap.size w0 W) (hbig : L.length < 4611686018427387904) :
    Calls Try.prog 20 #[v] W fun e w' => e = .returned (.tuple #[]) ∧ Kd.R (Kd.int .i64) 3 w' w0.heap.size (fun _ => True) v (L.mergeSort fun x y => decide (x ≤ y)) ∧ Below w0.heap.size w0 w' := by
  by_cases h0 : L.length = 0
  · obtain ⟨A, c, rfl⟩ := R_zero hR h0
    obtain rfl := List.eq_nil_of_length_eq_zero h0
    refine (Any.slices_Sort_int_none Try.laysSort A c W).mono ?_
    rintro e w' ⟨rfl, rfl⟩
    exact ⟨rfl, by simpa using hR, HB⟩
  · obtain ⟨g, cap, cur, rfl, hbg, hblk, hnc, hcm, hcs, hc, hf⟩ := R_cells hR (by omega)
    have hH := Lib.holds_of_ints (Nat.le_refl L.length) hc hf
    rw [List.take_length] at hH
    refine (Any.slices_Sort_int Try.laysSort g 0 cap L W hH (blk_lt hblk) hbig).mono ?_
    rintro e w' ⟨rfl, n, os, rfl⟩
    rw [Lib.sorted_world _ W g 0 n _ _ os hH (by simp)]
    have hlen : (L.mergeSort fun x y => decide (x ≤ y)).length = L.length := by simp
    have hblk' : (W.drewN n).heap[g]? = some (.cells cur 3 (0, 0)) := hblk
    have hR2 := R_put hbg hblk' hcm hcs (L.mergeSort fun x y => decide (x ≤ y)) L.length (by omega) (by omega)
    rw [List.take_of_length_le (by omega)] at hR2
    have hB2 := below_setCells hbg ((L.mergeSort fun x y => decide (x ≤ y)).map (Value.int .i64)) 0 _ (pw_below_drewN HB n)
    generalize (W.drewN n).setCells g 0 ((L.mergeSort fun x y => decide (x ≤ y)).map (Value.int .i64)) = W2 at hR2 hB2 ⊢
    have hgr : Below W2.heap.size W2 (Sort.grow W2 os) := ⟨rfl, rfl, rfl, by show W2.heap.size ≤ (W2.heap ++ os).size; rw [Array.size_append]; omega, fun _ hj => Sort.heap_grow_old W2 os hj⟩
    exact ⟨rfl, Kd.R_below hR2 hgr, below_step hB2 hgr⟩
open Go.Shelf in
theorem compact_R (w0 W : World) (v : Value) (L : List Int) (hR : Kd.R (Kd.int .i64) 3 W w0.heap.size (fun _ => True) v L) (HB : Below w0.heap.size w0 W) (hbig : L.length < 4611686018427387904) :
    Calls Try.prog 21 #[v] W fun e w' => ∃ v' : Value, e = .returned v' ∧ Kd.R (Kd.int .i64) 3 w' w0.heap.size (fun _ => True) v' (Lib.compact L) ∧ Below w0.heap.size w0 w' := by
  by_cases h0 : L.length = 0
  · obtain ⟨A, c, rfl⟩ := R_zero hR h0
    obtain rfl := List.eq_nil_of_length_eq_zero h0
    refine (Any.slices_Compact_int_empty Try.lays20 A c W).mono ?_
    rintro e w' ⟨rfl, rfl⟩
    exact ⟨_, rfl, by rw [show Lib.compact ([] : List Int) = [] from List.eq_nil_of_length_eq_zero (Nat.le_zero.1 (Lib.compact_length_le []))]; exact hR, HB⟩
  · obtain ⟨g, cap, cur, rfl, hbg, hblk, hnc, hcm, hcs, hc, hf⟩ := R_cells hR (by omega)
    have K := Any.slices_Compact_int_cells Try.lays20 g 0 L.length cap L W (Nat.le_refl _) (by omega) hnc hc hf
    rw [List.take_length] at K
    refine K.mono ?_
    rintro e w' ⟨rfl, q, rfl⟩
    have hle := Lib.compact_length_le L
    have hblk' : (W.drewN q).heap[g]? = some (.cells cur 3 (0, 0)) := hblk
    have hR2 := R_put hbg hblk' hcm hcs (Lib.compact L ++ List.replicate (L.length - (Lib.compact L).length) 0) (Lib.compact L).length (by simp) (by simp; omega)
    rw [List.take_left' rfl] at hR2
    exact ⟨_, rfl, hR2, below_setCells hbg _ 0 _ (pw_below_drewN HB q)⟩

def hold (t r s : Int) (u : S23) : Option Bool := if u.f0 = r then (if u.f3 ≥ t then some true else (arith_Mod.f s t).bind fun m1 => (arith_Mod.f u.f2 t).bind fun m2 => (arith_Mod.f (wrap64 (m1 - m2)) t).bind fun m3 => some (decide (m3 < u.f3))) else some false
def atIn (t : Int) (l : List S23) (r s : Int) : Nat → Nat → List Int → Option (List Int)
  | 0, _, acc => some acc
  | d + 1, i, acc => (hold t r s (rd_T23 l i)).bind fun b => if b = true then (if acc.length < 17592186044000 then atIn t l r s d (i + 1) (acc ++ [(rd_T23 l i).f1]) else none) else atIn t l r s d (i + 1) acc
theorem atIn_len (t : Int) (l : List S23) (r s : Int) : ∀ (d i : Nat) (acc L : List Int), acc.length ≤ 17592186044000 → atIn t l r s d i acc = some L → L.length ≤ 17592186044000
  | 0, i, acc, L, h0, h => by simp only [atIn] at h; obtain rfl := Option.some.inj h; exact h0
  | d + 1, i, acc, L, h0, h => by
    simp only [atIn] at h
    obtain ⟨b, _, h⟩ := Option.bind_eq_some_iff.mp h
    split at h
    · split at h
      · exact atIn_len t l r s d (i + 1) _ L (by rw [List.length_append, List.length_singleton]; omega) h
      · cases h
    · exact atIn_len t l r s d (i + 1) _ L h0 h

/-! ### occupancy_At: function 11 -/
def occupancy_At.f (t : Int) (l : List S23) (r s : Int) : Option (List Int) := (occupancy_Valid.f t l).bind fun b => if b = true then (atIn t l r s l.length 0 []).bind fun L => some (Go.Lib.compact (L.mergeSort fun x y => decide (x ≤ y))) else some []
set_option maxHeartbeats 8000000 in
set_option maxRecDepth 100000 in
theorem occupancy_At.calls (a0 : Int) (A1 : Option Addr) (c1 : Nat) (l1 : List S23) (a2 a3 : Int) (r : List Int) (w : World) (hr1 : Kd.C k23 w A1 l1.length l1) (hc1 : l1.length ≤ c1) (h : occupancy_At.f a0 l1 a2 a3 = some r) :
    Calls Try.prog 11 #[.int .i64 a0, .slice A1 l1.length c1, .int .i64 a2, .int .i64 a3] w fun e w' => ∃ v0_ : Value, e = .returned (v0_) ∧ Kd.R (Kd.int .i64) 3 w' w.heap.size (fun _ => True) v0_ r ∧ Below w.heap.size w w' := by
  have hl1 := hr1.2.1
  unfold occupancy_At.f at h
  obtain ⟨b, hb, H⟩ := Option.bind_eq_some_iff.mp h
  have KV := Aside0.mk (fun (W : World) (hb' : Below w.heap.size w W) => occupancy_Valid.calls a0 A1 c1 l1 b W (Kd.C_below hr1 hb') hc1 hb)
  have HR1 := Aside0.mk hr1
  have HL1 := Aside0.mk hl1
  clear hr1 hc1 h hb hl1
  have hu23 := Try.underlying23
  cases b with
  | false =>
    rw [if_neg (by decide)] at H
    obtain rfl := Option.some.inj H
    go_enter Try.func11, Try.ntmps11
    go_wp2_with (go_at_call 17; (with_reducible refine (KV.out _ (Below.refl _ _)).mono ?_); rintro e w' ⟨rfl, hb⟩)
    go_ret
    exact ⟨_, rfl, Kd.R_nil _ _ _ _ _, hb⟩
  | true =>
    rw [if_pos rfl] at H
    obtain ⟨L, hL, H⟩ := Option.bind_eq_some_iff.mp H
    obtain rfl := Option.some.inj H
    have HLL := Aside0.mk (atIn_len a0 l1 a2 a3 _ _ _ _ (by simp) hL)
    have H0 := Aside0.mk hL
    clear H hL
    go_enter Try.func11, Try.ntmps11
    go_wp2_with (go_at_call 17; (with_reducible refine (KV.out _ (Below.refl _ _)).mono ?_); rintro e w1 ⟨rfl, hb⟩; have HB1 := Aside0.mk hb; clear hb)
    have HN1 : Aside0 (Kd.R (Kd.int .i64) 3 w1 w.heap.size (fun _ => True) (.slice none 0 0) []) := ⟨Kd.R_nil _ _ _ _ _⟩
    go_loopg [9, 18] l1.length (fun g v9 v18 w' => ∃ (i : Nat) (acc : List Int), i ≤ l1.length ∧ l1.length - i ≤ g ∧ v18 = .int .i64 (i : Int) ∧ Aside0 (atIn a0 l1 a2 a3 (l1.length - i) i acc = some L) ∧ Aside0 (Kd.R (Kd.int .i64) 3 w' w.heap.size (fun _ => True) v9 acc) ∧ Aside0 (Below w.heap.size w w'))
    case atStart => exact ⟨0, [], Nat.zero_le _, by omega, rfl, H0, HN1, HB1⟩
    case round =>
      clear H0 HN1 HB1
      obtain ⟨i, acc, hi, hg, rfl, HC, HA, HBW⟩ := hrel
      by_cases hlt : i < l1.length
      · have hltz : (i : Int) < (l1.length : Int) := Int.ofNat_lt.2 hlt
        have h0z : (0 : Int) ≤ (i : Int) := Int.natCast_nonneg _
        have hC := HC.out
        rw [show l1.length - i = (l1.length - (i + 1)) + 1 by omega] at hC
        simp only [atIn] at hC
        obtain ⟨bb, hbb, hC⟩ := Option.bind_eq_some_iff.mp hC
        obtain ⟨ad, eA, x0, x1, x2, x3, x4⟩ := at_T23 (Kd.C_below HR1.out HBW.out) (i : Int) h0z hltz
        cases eA
        rw [Int.toNat_natCast] at x0 x1 x2 x3 x4
        have HLT := Aside0.mk hlt
        obtain ⟨a, hae⟩ : ∃ a, a = rd_T23 l1 (i : Int) := ⟨_, rfl⟩
        rw [← hae] at x0 x1 x2 x3 x4 hbb hC
        have HCC := Aside0.mk hC
        have HBB := Aside0.mk hbb
        clear hae hC hbb HC hlt
        have hltz' := eq_true hltz
        have h0z' := eq_true h0z
        have hlb : decide ((i : Int) < (l1.length : Int)) = true := decide_eq_true hltz
        clear hltz h0z
        go_wp2
        clear hltz' h0z' hlb x0 x1 x2 x3 x4
        have HB0 := Aside0.mk (below_alloc HBW.out (.cells #[.int .i64 a.f0, .int .i64 a.f1, .int .i64 a.f2, .int .i64 a.f3, .int .i64 a.f4] 23))
        have HA0 := Aside0.mk (Kd.R_alloc (Kd.R_mono (ok' := fun k => k ≠ wr.heap.size) (Kd.R_bound HA.out) (fun k hk => by have := hk.2; omega)) (.cells #[.int .i64 a.f0, .int .i64 a.f1, .int .i64 a.f2, .int .i64 a.f3, .int .i64 a.f4] 23))
        have HX0 : Aside0 (usBox (wr.alloc (.cells #[.int .i64 a.f0, .int .i64 a.f1, .int .i64 a.f2, .int .i64 a.f3, .int .i64 a.f4] 23)) wr.heap.size a) := ⟨by unfold usBox World.alloc; simp only [Array.getElem?_push_size]⟩
        have HG0 := Aside0.mk (below_size HBW.out)
        generalize wr.alloc (.cells #[.int .i64 a.f0, .int .i64 a.f1, .int .i64 a.f2, .int .i64 a.f3, .int .i64 a.f4] 23) = W0 at HB0 HA0 HX0 ⊢
        generalize wr.heap.size = gb at HA0 HX0 HG0 ⊢
        clear HA HBW
        obtain ⟨x0, x1, x2, x3, x4⟩ := HX0.out.cells
        have hbb := HBB.out
        clear HBB
        unfold hold at hbb
        by_cases he : a.f0 = a2
        · rw [if_pos he] at hbb
          have heb : (a.f0 == a2) = true := beq_iff_eq.mpr he
          have hed : decide (a.f0 = a2) = true := decide_eq_true he
          clear he
          by_cases h3 : a.f3 ≥ a0
          · rw [if_pos h3] at hbb
            obtain rfl := Option.some.inj hbb
            have h3b : decide (a0 ≤ a.f3) = true := decide_eq_true h3
            clear hbb h3
            go_quiet (fail)
            clear heb hed h3b
            have hC := HCC.out
            rw [if_pos rfl] at hC
            split at hC
            · rename_i hcap
              have HCN := Aside0.mk hC
              have hb8 : (acc.length + 1) * 8 ≤ 140737488355328 := by omega
              have HAq := Aside0.mk (Kd.R_drewN HA0.out nq)
              have HXq := Aside0.mk (HX0.out.below (pw_below_drewN (Below.refl _ _) nq))
              have HBq := Aside0.mk (pw_below_drewN HB0.out nq)
              generalize W0.drewN nq = W1 at HAq HXq HBq ⊢
              clear hC HCC HA0 HX0 HB0 x0 x1 x2 x3 x4 hcap
              obtain ⟨_, x1, _, _, _⟩ := HXq.out.cells
              go_wp2_with (first
                | ((with_reducible refine gate_dst (N := 51) rfl ?_); go_loud (refine Kd.R_append (Kd.int .i64) (w0 := w) w.heap.size rfl (.tmp 47) (.tmp 50) 31 3 (.int .i64 0) 8 rfl Try.underlying31 (by kernel_rfl) rfl (by decide) (by omega) u9 acc a.f1 [.int .i64 a.f1] (fun k => k ≠ gb) (fun _ => False) rfl rfl ?aP (fun _ hk => hk.elim) ?aF HAq.out HBq.out (below_size HBq.out) hb8 ?_); (case aP => exact rfl); (case aF => exact (fun k hk => by have := blk_lt HXq.out; omega)); intro v7 w7 hR7 hB7 hg7 hat7))
              have HR7 := Aside0.mk (Kd.R_mono (ok' := fun _ => True) hR7 (fun _ _ => trivial))
              have HB7 := Aside0.mk hB7
              clear x1 HXq HAq HBq hg7 hat7 hR7 hB7 hb8
              go_roundg (l1.length - (i + 1))
              case measure => have := HLT.out; omega
              case rel => exact ⟨i + 1, _, by have := HLT.out; omega, by omega, by have h1 := HL1.out; have h2 := HLT.out; rw [IntWalk.wrap64_in _ (by omega)]; rfl, HCN, HR7, HB7⟩
            · cases hC
          · rw [if_neg h3] at hbb
            obtain ⟨m1, hm1, hbb⟩ := Option.bind_eq_some_iff.mp hbb
            obtain ⟨m2, hm2, hbb⟩ := Option.bind_eq_some_iff.mp hbb
            obtain ⟨m3, hm3, hbb⟩ := Option.bind_eq_some_iff.mp hbb
            have hbb := Option.some.inj hbb
            have h3b : decide (a0 ≤ a.f3) = false := decide_eq_false h3
            have KM1 := Aside0.mk (fun (W : World) => arith_Mod.calls _ _ _ W hm1)
            have KM2 := Aside0.mk (fun (W : World) => arith_Mod.calls _ _ _ W hm2)
            have KM3 := Aside0.mk (fun (W : World) => arith_Mod.calls _ _ _ W hm3)
            clear h3 hm1 hm2 hm3
            cases bb with
            | true =>
              repeat (go_quiet (first | (go_at_call 19; first | (with_reducible refine (KM1.out _).mono ?_) | (with_reducible refine (KM2.out _).mono ?_) | (with_reducible refine (KM3.out _).mono ?_)); rintro e w' ⟨rfl, ⟨nd, rfl⟩⟩; (try first | exact ⟨rfl, _, World.drewN_drewN _ _ _⟩ | exact ⟨rfl, _, Eq.trans (World.drewN_drewN _ _ _) (congrArg (World.drewN _) (Nat.add_assoc _ _ _))⟩)))
              clear heb hed h3b hbb KM1 KM2 KM3
              have hC := HCC.out
              rw [if_pos rfl] at hC
              split at hC
              · rename_i hcap
                have HCN := Aside0.mk hC
                have hb8 : (acc.length + 1) * 8 ≤ 140737488355328 := by omega
                have HAq := Aside0.mk (Kd.R_drewN HA0.out nq)
                have HXq := Aside0.mk (HX0.out.below (pw_below_drewN (Below.refl _ _) nq))
                have HBq := Aside0.mk (pw_below_drewN HB0.out nq)
                generalize W0.drewN nq = W1 at HAq HXq HBq ⊢
                clear hC HCC HA0 HX0 HB0 x0 x1 x2 x3 x4 hcap
                obtain ⟨_, x1, _, _, _⟩ := HXq.out.cells
                go_wp2_with (first
                  | ((with_reducible refine gate_dst (N := 51) rfl ?_); go_loud (refine Kd.R_append (Kd.int .i64) (w0 := w) w.heap.size rfl (.tmp 47) (.tmp 50) 31 3 (.int .i64 0) 8 rfl Try.underlying31 (by kernel_rfl) rfl (by decide) (by omega) u9 acc a.f1 [.int .i64 a.f1] (fun k => k ≠ gb) (fun _ => False) rfl rfl ?aP (fun _ hk => hk.elim) ?aF HAq.out HBq.out (below_size HBq.out) hb8 ?_); (case aP => exact rfl); (case aF => exact (fun k hk => by have := blk_lt HXq.out; omega)); intro v7 w7 hR7 hB7 hg7 hat7))
                have HR7 := Aside0.mk (Kd.R_mono (ok' := fun _ => True) hR7 (fun _ _ => trivial))
                have HB7 := Aside0.mk hB7
                clear x1 HXq HAq HBq hg7 hat7 hR7 hB7 hb8
                go_roundg (l1.length - (i + 1))
                case measure => have := HLT.out; omega
                case rel => exact ⟨i + 1, _, by have := HLT.out; omega, by omega, by have h1 := HL1.out; have h2 := HLT.out; rw [IntWalk.wrap64_in _ (by omega)]; rfl, HCN, HR7, HB7⟩
              · cases hC
            | false =>
              repeat (go_quiet (first | (go_at_call 19; first | (with_reducible refine (KM1.out _).mono ?_) | (with_reducible refine (KM2.out _).mono ?_) | (with_reducible refine (KM3.out _).mono ?_)); rintro e w' ⟨rfl, ⟨nd, rfl⟩⟩; (try first | exact ⟨rfl, _, World.drewN_drewN _ _ _⟩ | exact ⟨rfl, _, Eq.trans (World.drewN_drewN _ _ _) (congrArg (World.drewN _) (Nat.add_assoc _ _ _))⟩)))
              clear heb hed h3b hbb KM1 KM2 KM3
              have HCN : Aside0 (atIn a0 l1 a2 a3 (l1.length - (i + 1)) (i + 1) acc = some L) := ⟨by have := HCC.out; rwa [if_neg (by decide)] at this⟩
              clear HCC x0 x1 x2 x3 x4
              go_wp2
              go_roundg (l1.length - (i + 1))
              case measure => have := HLT.out; omega
              case rel => exact ⟨i + 1, acc, by have := HLT.out; omega, by omega, by have h1 := HL1.out; have h2 := HLT.out; rw [IntWalk.wrap64_in _ (by omega)]; rfl, HCN, ⟨Kd.R_mono (Kd.R_drewN HA0.out _) (fun _ _ => trivial)⟩, ⟨pw_below_drewN HB0.out _⟩⟩
        · rw [if_neg he] at hbb
          obtain rfl := Option.some.inj hbb
          have heb : (a.f0 == a2) = false := beq_eq_false_iff_ne.mpr he
          have hed : decide (a.f0 = a2) = false := decide_eq_false he
          clear hbb he
          go_quiet (fail)
          clear heb hed
          have HCN : Aside0 (atIn a0 l1 a2 a3 (l1.length - (i + 1)) (i + 1) acc = some L) := ⟨by have := HCC.out; rwa [if_neg (by decide)] at this⟩
          clear HCC x0 x1 x2 x3 x4
          go_wp2
          go_roundg (l1.length - (i + 1))
          case measure => have := HLT.out; omega
          case rel => exact ⟨i + 1, acc, by have := HLT.out; omega, by omega, by have h1 := HL1.out; have h2 := HLT.out; rw [IntWalk.wrap64_in _ (by omega)]; rfl, HCN, ⟨Kd.R_mono (Kd.R_drewN HA0.out _) (fun _ _ => trivial)⟩, ⟨pw_below_drewN HB0.out _⟩⟩
      · have hltz : ¬ (i : Int) < (l1.length : Int) := by omega
        have hlb : decide ((i : Int) < (l1.length : Int)) = false := decide_eq_false hltz
        have hie : i = l1.length := by omega
        subst hie
        have hC := HC.out
        rw [Nat.sub_self] at hC
        simp only [atIn] at hC
        obtain rfl := Option.some.inj hC
        clear HC hC
        go_wp2_with (first
          | (go_at_call 20; (with_reducible refine (sort_R w _ _ acc HA.out HBW.out (by have := HLL.out; omega)).mono ?_); rintro e w6 ⟨rfl, hR6, hB6⟩; have HR6 := Aside0.mk hR6; have HB6 := Aside0.mk hB6; clear hR6 hB6)
          | (go_at_call 21; (with_reducible refine (compact_R w _ _ _ HR6.out HB6.out (by rw [List.length_mergeSort]; have := HLL.out; omega)).mono ?_); rintro e w7 ⟨v7, rfl, hR7, hB7⟩; have HR7 := Aside0.mk hR7; have HB7 := Aside0.mk hB7; clear hR7 hB7))
        go_ret
        exact ⟨_, rfl, HR7.out, HB7.out⟩

set_option maxRecDepth 100000 in
set_option maxHeartbeats 2000000 in
theorem run_equalIn_arr2 (w : World) (a b c d : Int) : (Op.equalIn 10000 28 (.agg #[.int .i64 a, .int .i64 b]) (.agg #[.int .i64 c, .int .i64 d])).run Try.prog w = .ok (a == c && b == d) w := by
  obtain ⟨m, hm⟩ : ∃ m, m = 9999 := ⟨_, rfl⟩
  have e3 : ∀ (w : World) (x y : Int), (Op.equalIn m 3 (.int .i64 x) (.int .i64 y)).run Try.prog w = .ok (x == y) w := fun w x y => by
    rw [hm]
    exact run_equalIn_int w 9998 3 .i64 .i64 x y Try.underlying3
  rw [show (10000 : Nat) = m + 1 by omega]
  clear hm
  have e4 : (sizeOf 3).run Try.prog w = .ok 1 w := by go_simp
  have p0 : ∀ (x y : Int) (w : World), (part 3 #[.int .i64 x, .int .i64 y] 0).run Try.prog w = .ok (.int .i64 x) w := fun x y w => by unfold part; go_simp
  have p1 : ∀ (x y : Int) (w : World), (part 3 #[.int .i64 x, .int .i64 y] 1).run Try.prog w = .ok (.int .i64 y) w := fun x y w => by unfold part; go_simp
  simp only [Op.equalIn, Sem.run_bind, run_underlying Try.underlying28, Result.andThen_ok, e4]
  simp only [Std.Legacy.Range.forIn_eq_forIn_range', Std.Legacy.Range.size]
  simp only [show List.range' 0 ((2 - 0 + 1 - 1) / 1) 1 = [0, 1] from rfl, List.forIn_cons, List.forIn_nil, Sem.run_bind, Nat.zero_mul, Nat.one_mul, p0, p1, e3, Result.andThen_ok]
  by_cases h : a = c
  · subst h
    by_cases h2 : b = d
    · subst h2
      simp [Sem.run_bind, p0, p1, e3]
    · simp [Sem.run_bind, p0, p1, e3, h2]
  · simp [h]
theorem eqg2 : Try.prog.eqGuardType Try.prog.depth 28 = false := by kernel_rfl
attribute [local go_sem] run_equalIn_arr2 eqg2
theorem at_kP {w : World} {A : Option Addr} {n : Nat} {xs : List (Int × Int)} (h : Kd.C kP w A n xs) (i : Int) (h0 : 0 ≤ i) (h1 : i < n) : ∃ ad, A = some ad ∧ w.cell? (ad.add (i.toNat * 2)) = some (.int .i64 (xs.getD i.toNat (0, 0)).1) ∧ w.cell? ⟨(ad.add (i.toNat * 2)).block, (ad.add (i.toNat * 2)).off + 1, none⟩ = some (.int .i64 (xs.getD i.toNat (0, 0)).2) := by
  obtain ⟨ad, c, e, _, hK, hc0⟩ := Kd.C_get h ((0, 0) : Int × Int) i h0 h1
  have hc : ∀ j u, c[j]? = some u → w.cell? (ad.add (i.toNat * 2 + j)) = some u := hc0
  obtain ⟨_, _, rfl, rfl, rfl⟩ := hK
  exact ⟨ad, e, hc 0 _ rfl, by rw [← add_field _ _ 1 (by omega)]; exact hc 1 _ rfl⟩
set_option maxHeartbeats 8000000 in
set_option maxRecDepth 100000 in
theorem same2_true (A0 : Option Addr) (c0 : Nat) (A1 : Option Addr) (c1 : Nat) (l : List (Int × Int)) (w : World) (hr0 : Kd.C kP w A0 l.length l) (hc0 : l.length ≤ c0) (hr1 : Kd.C kP w A1 l.length l) (hc1 : l.length ≤ c1) (hl : l.length ≤ 4611686018427387904) :
    Calls Try.prog 8 #[.slice A0 l.length c0, .slice A1 l.length c1] w fun e w' => e = .returned (.bool true) ∧ Below w.heap.size w w' := by
  have HR0 := Aside0.mk hr0
  have HR1 := Aside0.mk hr1
  have HL := Aside0.mk hl
  have hu28 := Try.underlying28
  clear hr0 hr1 hc0 hc1 hl
  go_enter Try.func8, Try.ntmps8
  go_wp2
  have HB0 := Aside0.mk (Below.refl w.heap.size w)
  go_loopg [13] l.length (fun g v13 w' => ∃ (i : Nat), i ≤ l.length ∧ l.length - i ≤ g ∧ v13 = .int .i64 (i : Int) ∧ Aside0 (Below w.heap.size w w'))
  case atStart => exact ⟨0, Nat.zero_le _, by omega, rfl, HB0⟩
  case round =>
    clear HB0
    obtain ⟨i, hi, hg, rfl, HBW⟩ := hrel
    by_cases hlt : i < l.length
    · have hltz : (i : Int) < (l.length : Int) := Int.ofNat_lt.2 hlt
      have h0z : (0 : Int) ≤ (i : Int) := Int.natCast_nonneg _
      obtain ⟨ad, eA, x0, x1⟩ := at_kP (Kd.C_below HR0.out HBW.out) (i : Int) h0z hltz
      obtain ⟨ad2, eA2, y0, y1⟩ := at_kP (Kd.C_below HR1.out HBW.out) (i : Int) h0z hltz
      cases eA
      cases eA2
      rw [Int.toNat_natCast] at x0 x1 y0 y1
      obtain ⟨p, hp⟩ : ∃ p, p = l.getD i (0, 0) := ⟨_, rfl⟩
      rw [← hp] at x0 x1 y0 y1
      obtain ⟨p0, p1⟩ := p
      have HLT := Aside0.mk hlt
      clear hp hlt
      have hltz' := eq_true hltz
      have h0z' := eq_true h0z
      have hlb : decide ((i : Int) < (l.length : Int)) = true := decide_eq_true hltz
      clear hltz h0z
      dsimp only at x0 x1 y0 y1
      go_wp2
      go_quiet (fail)
      clear x0 x1 y0 y1
      go_wp2
      go_roundg (l.length - (i + 1))
      case measure => have := HLT.out; omega
      case rel => exact ⟨i + 1, by have := HLT.out; omega, by omega, by have h1 := HL.out; have h2 := HLT.out; rw [IntWalk.wrap64_in _ (by omega)]; rfl, ⟨pw_below_drewN HBW.out _⟩⟩
    · have hltz : ¬ (i : Int) < (l.length : Int) := by omega
      have hlb : decide ((i : Int) < (l.length : Int)) = false := decide_eq_false hltz
      go_wp2
      go_ret
      exact ⟨rfl, HBW.out⟩

end Go.Proofs.Ytjbemmngnigaiaa.PAll
