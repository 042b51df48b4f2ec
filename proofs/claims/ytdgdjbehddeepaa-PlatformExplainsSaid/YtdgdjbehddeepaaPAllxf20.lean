/- What calls of the Go functions below do, each under the premises that its theorem states. Laid by a program of the claimant, which drives the kit's print; some texts are written by hand. -/
import Derived.Test.YtdgdjbehddeepaaPAllx0
namespace Go.Proofs.Ytdgdjbehddeepaa.PAll
open Go.RowKit Go.Proofs.YtdgdjbehddeepaaW.PrintWords Go.Proofs.YtdgdjbehddeepaaW.PrintLast Go.Proofs.YtdgdjbehddeepaaW.PrintMore
attribute [local go_sem] max2_int min2_int max_two min_two max_three min_three max_four min_four   -- for this text's walks alone
set_option linter.unusedVariables false
set_option linter.unusedSimpArgs false

/-! ### railplankeep_Same_int: function 20 -/
def railplankeep_Same_int.l0 : Nat → List Int → List Int → Int → Int → Option (Bool)
  | 0, _, _, _, _ => none
  | k + 1, x0, x1, x12, x13 => if x13 < x12 then (if 0 ≤ x13 then (if x13 < (x0.length : Int) then (if x13 < (x1.length : Int) then (if (rd x0 x13) = (rd x1 x13) then (railplankeep_Same_int.l0 k x0 x1 x12 (wrap64 (x13 + 1))) else (some false)) else (none)) else (none)) else (none)) else (some true)
def railplankeep_Same_int.f (k : Nat) (l0 : List Int) (l1 : List Int) : Option (Bool) := if (l0.length : Int) = (l1.length : Int) then (railplankeep_Same_int.l0 k l0 l1 (l0.length : Int) 0) else (some false)
theorem railplankeep_Same_int.mono_l : ∀ k, (∀ y0 y1 y2 y3, LeO (railplankeep_Same_int.l0 k y0 y1 y2 y3) (railplankeep_Same_int.l0 (k + 1) y0 y1 y2 y3))
  | 0 => fun _ _ _ _ r h => by simp [railplankeep_Same_int.l0] at h
  | k + 1 => by
    have ih0 := railplankeep_Same_int.mono_l k
    · intro y0 y1 y2 y3
      unfold railplankeep_Same_int.l0
      repeat' first
      | (with_reducible exact ih0 _ _ _ _)
      | (with_reducible exact LeO.refl _)
      | (with_reducible exact LeO.none _)
      | (with_reducible refine LeO.ite ?_ ?_)
      | (with_reducible refine LeO.bind ?_ (fun _ => ?_))
      | exact ih0 _ _ _ _
      | exact LeO.none _
      | refine LeO.ite ?_ ?_
      | refine LeO.bind ?_ (fun _ => ?_)
theorem railplankeep_Same_int.mono : ∀ a0 a1 k, LeO (railplankeep_Same_int.f k a0 a1) (railplankeep_Same_int.f (k + 1) a0 a1) := by
  intro a0 a1 k
  have ih0 := railplankeep_Same_int.mono_l k
  unfold railplankeep_Same_int.f
  repeat' first
      | (with_reducible exact ih0 _ _ _ _)
      | (with_reducible exact LeO.refl _)
      | (with_reducible exact LeO.none _)
      | (with_reducible refine LeO.ite ?_ ?_)
      | (with_reducible refine LeO.bind ?_ (fun _ => ?_))
      | exact ih0 _ _ _ _
      | exact LeO.none _
      | refine LeO.ite ?_ ?_
      | refine LeO.bind ?_ (fun _ => ?_)
set_option maxHeartbeats 8000000 in
set_option maxRecDepth 100000 in
theorem railplankeep_Same_int.calls (k : Nat) (A0 : Option Addr) (c0 : Nat) (l0 : List Int) (A1 : Option Addr) (c1 : Nat) (l1 : List Int) (r : Bool) (w : World) (hr0 : Kd.C (Kd.int .i64) w A0 l0.length l0) (hc0 : l0.length ≤ c0) (hr1 : Kd.C (Kd.int .i64) w A1 l1.length l1) (hc1 : l1.length ≤ c1) (h : railplankeep_Same_int.f k l0 l1 = some r) :
    Calls Try.prog 20 #[.slice A0 l0.length c0, .slice A1 l1.length c1] w fun e w' => e = .returned (.bool r) ∧ Drawn0 w w' := by
  have HR0 := Aside0.mk hr0
  have HC0 := Aside0.mk hc0
  clear hr0 hc0
  have HR1 := Aside0.mk hr1
  have HC1 := Aside0.mk hc1
  clear hr1 hc1
  have H : (if (l0.length : Int) = (l1.length : Int) then (railplankeep_Same_int.l0 k l0 l1 (l0.length : Int) 0) else (some false)) = some r := h
  clear h
  by_cases c3 : (l0.length : Int) = (l1.length : Int)
  · rw [if_pos c3] at H
    have c3b0 : ((l0.length : Int) == (l1.length : Int)) = true := beq_iff_eq.mpr c3
    have c3b1 : ((l0.length : Int) != (l1.length : Int)) = false := bne_eq_false_iff_eq.mpr c3
    have c3b2 : (l0.length == l1.length) = true := by first | simpa using c3 | (simp at c3 ⊢; omega)
    clear c3
    have H' := Aside0.mk H
    clear H
    go_enter Try.func20, Try.ntmps20
    go_wp2
    repeat (go_quiet (fail); try go_wp2)
    go_loopg [13] k (fun kq v13 w' => ∃ (x13_1 : Int), v13 = .int .i64 x13_1 ∧ Aside0 (railplankeep_Same_int.l0 kq l0 l1 (l0.length : Int) x13_1 = some r) ∧ Aside0 (kq ≤ k) ∧ Drawn0 w w')
    case atStart => exact ⟨(0), (by first | rfl | (simp; done) | (simp [*]; done)), H', ⟨Nat.le_refl _⟩, by repeat (first | exact Drawn0.refl _ | apply Drawn0.step)⟩
    case round =>
      clear H'
      try clear c1
      try clear c2
      try clear p2
      try clear c3
      try clear c3b0
      try clear c3b1
      try clear c3b2
      obtain ⟨x13_1, rfl, HA, HK1, ⟨m1, rfl⟩⟩ := hrel
      cases gk with
      | zero => exact absurd HA.out (by simp [railplankeep_Same_int.l0])
      | succ k1 =>
        have H := HA.out
        clear HA
        simp only [railplankeep_Same_int.l0] at H
        by_cases c4 : x13_1 < (l0.length : Int)
        · rw [if_pos c4] at H
          have c4b0 : decide (x13_1 < (l0.length : Int)) = true := decide_eq_true c4
          clear c4
          by_cases c5 : 0 ≤ x13_1
          · rw [if_pos c5] at H
            have c5b0 : decide (0 ≤ x13_1) = true := decide_eq_true c5
            clear c5
            by_cases c6 : x13_1 < (l0.length : Int)
            · rw [if_pos c6] at H
              have c6b0 : decide (x13_1 < (l0.length : Int)) = true := decide_eq_true c6
              clear c6
              by_cases c7 : x13_1 < (l1.length : Int)
              · rw [if_pos c7] at H
                have c7b0 : decide (x13_1 < (l1.length : Int)) = true := decide_eq_true c7
                clear c7
                by_cases c8 : (rd l0 x13_1) = (rd l1 x13_1)
                · rw [if_pos c8] at H
                  have c8b0 : ((rd l0 x13_1) == (rd l1 x13_1)) = true := beq_iff_eq.mpr c8
                  have c8b1 : ((rd l0 x13_1) != (rd l1 x13_1)) = false := bne_eq_false_iff_eq.mpr c8
                  clear c8
                  have H' := Aside0.mk H
                  clear H
                  have p197 : 0 ≤ (x13_1 : Int) := of_decide_eq_true (by first | (with_reducible assumption) | assumption)
                  have q197 : x13_1 < (l0.length : Int) := of_decide_eq_true (by first | (with_reducible assumption) | assumption)
                  obtain ⟨ad197, e197, hx197_0⟩ := Kd.at_int HR0.out x13_1 p197 q197
                  cases e197
                  replace p197 := eq_true p197
                  replace q197 := eq_true q197
                  have p198 : 0 ≤ (x13_1 : Int) := of_decide_eq_true (by first | (with_reducible assumption) | assumption)
                  have q198 : x13_1 < (l1.length : Int) := of_decide_eq_true (by first | (with_reducible assumption) | assumption)
                  obtain ⟨ad198, e198, hx198_0⟩ := Kd.at_int HR1.out x13_1 p198 q198
                  cases e198
                  replace p198 := eq_true p198
                  replace q198 := eq_true q198
                  go_wp2
                  repeat (go_quiet (fail); try go_wp2)
                  go_roundg k1
                  case measure => have := HK1.out; omega
                  case rel => exact ⟨(wrap64 (x13_1 + 1)), (by first | rfl | (simp; done) | (simp [*]; done)), H', ⟨by have := HK1.out; omega⟩, by repeat (first | exact Drawn0.refl _ | apply Drawn0.step)⟩
                · rw [if_neg c8] at H
                  have c8b0 : ((rd l0 x13_1) == (rd l1 x13_1)) = false := beq_eq_false_iff_ne.mpr c8
                  have c8b1 : ((rd l0 x13_1) != (rd l1 x13_1)) = true := bne_iff_ne.mpr c8
                  obtain rfl := Option.some.inj H
                  have p197 : 0 ≤ (x13_1 : Int) := of_decide_eq_true (by first | (with_reducible assumption) | assumption)
                  have q197 : x13_1 < (l0.length : Int) := of_decide_eq_true (by first | (with_reducible assumption) | assumption)
                  obtain ⟨ad197, e197, hx197_0⟩ := Kd.at_int HR0.out x13_1 p197 q197
                  cases e197
                  replace p197 := eq_true p197
                  replace q197 := eq_true q197
                  have p198 : 0 ≤ (x13_1 : Int) := of_decide_eq_true (by first | (with_reducible assumption) | assumption)
                  have q198 : x13_1 < (l1.length : Int) := of_decide_eq_true (by first | (with_reducible assumption) | assumption)
                  obtain ⟨ad198, e198, hx198_0⟩ := Kd.at_int HR1.out x13_1 p198 q198
                  cases e198
                  replace p198 := eq_true p198
                  replace q198 := eq_true q198
                  go_wp2
                  repeat (go_quiet (fail); try go_wp2)
                  go_ret
                  exact ⟨by first | rfl | (simp; done) | (simp [*]; done), by repeat (first | exact Drawn0.refl _ | apply Drawn0.step)⟩
              · rw [if_neg c7] at H
                exact absurd H (by simp)
            · rw [if_neg c6] at H
              exact absurd H (by simp)
          · rw [if_neg c5] at H
            exact absurd H (by simp)
        · rw [if_neg c4] at H
          have c4b0 : decide (x13_1 < (l0.length : Int)) = false := decide_eq_false c4
          clear c4
          obtain rfl := Option.some.inj H
          go_wp2
          repeat (go_quiet (fail); try go_wp2)
          go_ret
          exact ⟨by first | rfl | (simp; done) | (simp [*]; done), by repeat (first | exact Drawn0.refl _ | apply Drawn0.step)⟩
  · rw [if_neg c3] at H
    have c3b0 : ((l0.length : Int) == (l1.length : Int)) = false := beq_eq_false_iff_ne.mpr c3
    have c3b1 : ((l0.length : Int) != (l1.length : Int)) = true := bne_iff_ne.mpr c3
    have c3b2 : (l0.length == l1.length) = false := by first | simpa using c3 | (simp at c3 ⊢; omega)
    obtain rfl := Option.some.inj H
    go_enter Try.func20, Try.ntmps20
    go_wp2
    repeat (go_quiet (fail); try go_wp2)
    go_ret
    exact ⟨by first | rfl | (simp; done) | (simp [*]; done), by repeat (first | exact Drawn0.refl _ | apply Drawn0.step)⟩

/-- Cells put into a row from o on. -/
def putL : Array Value → Nat → List Value → Array Value
  | c, _, [] => c
  | c, o, v :: r => putL (c.setIfInBounds o v) (o + 1) r
theorem putL_size : ∀ (vs : List Value) (c : Array Value) (o : Nat), (putL c o vs).size = c.size
  | [], _, _ => rfl
  | v :: r, c, o => by simp [putL, putL_size r]
theorem putL_get : ∀ (vs : List Value) (c : Array Value) (o k : Nat), o + vs.length ≤ c.size → (putL c o vs)[k]? = if o ≤ k ∧ k < o + vs.length then vs[k - o]? else c[k]?
  | [], c, o, k, _ => by
    rw [if_neg (by rw [List.length_nil]; omega)]; rfl
  | v :: r, c, o, k, h => by
    rw [List.length_cons] at h
    show (putL (c.setIfInBounds o v) (o + 1) r)[k]? = _
    rw [putL_get r _ (o + 1) k (by simp; omega)]
    by_cases h1 : k = o
    · subst h1
      rw [if_neg (by omega), if_pos (by rw [List.length_cons]; omega), Nat.sub_self, Array.getElem?_setIfInBounds_self_of_lt (by omega)]
      rfl
    · by_cases h2 : o + 1 ≤ k ∧ k < o + 1 + r.length
      · rw [if_pos h2, if_pos (by rw [List.length_cons]; omega), show k - o = k - (o + 1) + 1 by omega]
        rfl
      · rw [if_neg h2, if_neg (by rw [List.length_cons]; omega), Array.getElem?_setIfInBounds_ne (by omega)]
theorem blk_setCells {g : Nat} {t : TypeId} : ∀ (vs : List Value) (o : Nat) (w : World) (cs : Array Value), w.heap[g]? = some (.cells cs t (0, 0)) → (w.setCells g o vs).heap[g]? = some (.cells (putL cs o vs) t (0, 0))
  | [], _, _, _, h => h
  | v :: r, o, w, cs, h => blk_setCells r (o + 1) _ _ (blk_set h o v)
theorem grown_setCells {g : Nat} : ∀ (vs : List Value) (o : Nat) (w w1 : World), w.grownBy w1 (some g) → w.grownBy (w1.setCells g o vs) (some g)
  | [], _, _, _, h => h
  | v :: r, o, w, w1, h => grown_setCells r (o + 1) w _ ⟨h.os, h.tape, h.output, by simpa [World.setCell] using h.size, fun k hk hne => (Below.heap_setCell w1 ⟨g, o, none⟩ v k (fun e => hne (by rw [e]))).trans (h.block k hk hne)⟩

/-! ### slices_Delete_int_int: function 38 -/
def slices_Delete_int_int.f (l0 : List Int) (a1 a2 : Int) : Option (List Int) := if 0 ≤ a1 then if a1 < a2 then if a2 ≤ (l0.length : Int) then some (l0.take a1.toNat ++ l0.drop a2.toNat) else none else none else none
def DelPost (w : World) (base : Nat) (ok : Nat → Prop) (v : Value) (r : List Int) (e : Ending) (w' : World) : Prop := ∃ v' : Value, e = .returned v' ∧ Kd.R (Kd.int .i64) 3 w' base ok v' r ∧ w.grownBy w' v.ownBlock ∧ v'.ownBlock = v.ownBlock
set_option maxHeartbeats 8000000 in
set_option maxRecDepth 100000 in
theorem slices_Delete_int_int.callsR (base : Nat) (ok : Nat → Prop) (v : Value) (l0 : List Int) (a1 a2 : Int) (r : List Int) (w : World) (hR : Kd.R (Kd.int .i64) 3 w base ok v l0) (h : slices_Delete_int_int.f l0 a1 a2 = some r) :
    Calls Try.prog 38 #[v, .int .i64 a1, .int .i64 a2] w fun e w' => ∃ v' : Value, e = .returned v' ∧ Kd.R (Kd.int .i64) 3 w' base ok v' r ∧ w.grownBy w' v.ownBlock ∧ v'.ownBlock = v.ownBlock := by
  have hq : 0 ≤ a1 ∧ a1 < a2 ∧ a2 ≤ (l0.length : Int) ∧ l0.take a1.toNat ++ l0.drop a2.toNat = r := by
    unfold slices_Delete_int_int.f at h
    split at h
    · split at h
      · split at h
        · exact ⟨by assumption, by assumption, by assumption, Option.some.inj h⟩
        · cases h
      · cases h
    · cases h
  clear h
  obtain ⟨q0, q1, q2, rfl⟩ := hq
  obtain ⟨i, rfl⟩ := Int.eq_ofNat_of_zero_le q0
  obtain ⟨j, rfl⟩ := Int.eq_ofNat_of_zero_le (show 0 ≤ a2 by omega)
  rw [Int.toNat_natCast, Int.toNat_natCast]
  have hij : i < j := by omega
  have hj : j ≤ l0.length := by omega
  have h0 := hR.1
  have hok := h0
  obtain ⟨hn0, hown⟩ := Kd.own_of_R hR
  clear hR
  rcases hown with ⟨_, hz⟩ | ⟨g, cap, cur, hv, hbg, hblk, hnc, hcm, hcs, htk⟩
  · omega
  subst hv
  have hel : (encs (Value.int .i64) l0).length = l0.length := encs_length _
  have hcm' : cap ≤ 9223372036854775807 := by simpa [maxLen] using hcm
  have hcsz : cur.size = cap := by rw [hcs]; omega
  have hget : ∀ k, k < l0.length → cur[k]? = some (.int .i64 (l0.getD k 0)) := by
    intro k hk
    have e1 : (cur.toList.take (l0.length * 1))[k]? = some (.int .i64 (l0.getD k 0)) := by
      rw [htk]
      simp [encs, List.getElem?_eq_getElem hk, List.getD_eq_getElem?_getD]
    rw [Nat.mul_one, List.getElem?_take_of_lt hk, Array.getElem?_toList] at e1
    exact e1
  obtain ⟨news, hnews⟩ : ∃ news, news = (l0.drop j).map (Value.int .i64) := ⟨_, rfl⟩
  have hlen : news.length = l0.length - j := by rw [hnews]; simp
  have hblkd : w.drew.heap[g]? = some (.cells cur 3 (0, 0)) := hblk
  obtain ⟨A, hA, hsrc⟩ : ∃ A : Addr, (if cap = j then some (⟨g, 0, none⟩ : Addr) else some ⟨g, j, none⟩) = some A ∧ Aside0 (∀ t u, news[t]? = some u → w.drew.cell? (A.add t) = some u) := by
    by_cases hc : cap = j
    · refine ⟨⟨g, 0, none⟩, by simp [hc], ⟨fun t u hu => ?_⟩⟩
      have h0 : news.length = 0 := by rw [hlen]; omega
      rw [List.length_eq_zero_iff.1 h0] at hu
      simp at hu
    · refine ⟨⟨g, j, none⟩, by simp [hc], ⟨fun t u hu => ?_⟩⟩
      have ht : t < l0.length - j := by
        have := (List.getElem?_eq_some_iff.1 hu).1
        rwa [hlen] at this
      rw [Addr.add_lit]
      refine (blk_cell hblkd _).trans ?_
      rw [hget _ (by omega), ← hu, hnews, List.getElem?_map, List.getElem?_drop, List.getElem?_eq_getElem (by omega), List.getD_eq_getElem?_getD, List.getElem?_eq_getElem (by omega)]
      rfl
  obtain ⟨i0, hi0, hz0, hz1, hz2⟩ := info_parts info3
  have s1 : Aside0 (news.length = (l0.length - j) * 1) := ⟨by rw [Nat.mul_one]; exact hlen⟩
  have s2 : Aside0 (∀ u ∈ news, u.oneCell' = true) := ⟨by
    intro u hu
    rw [hnews] at hu
    obtain ⟨x, _, rfl⟩ := List.mem_map.1 hu
    rfl⟩
  have s3 : Aside0 (∀ t, t < news.length → (w.drew.cell? ⟨g, 0 + i * 1 + t, none⟩).isSome = true ∧ w.drew.frozen? ⟨g, 0 + i * 1 + t, none⟩ = false) := ⟨by
    intro t ht
    rw [hlen] at ht
    refine ⟨?_, blk_frozen hblkd _⟩
    rw [blk_cell hblkd, hget _ (by omega)]
    rfl⟩
  obtain ⟨W1, hW1⟩ : ∃ W1, W1 = w.drew.setCells g (0 + i * 1) news := ⟨_, rfl⟩
  have hb1 : W1.heap[g]? = some (.cells (putL cur (0 + i * 1) news) 3 (0, 0)) := by rw [hW1]; exact blk_setCells _ _ _ _ hblkd
  have hcl : ∀ ty, (Builtin.clear_ #[22] ty #[.slice (some ⟨g, i + (l0.length - j), none⟩) (l0.length - (i + (l0.length - j))) (cap - (i + (l0.length - j)))]).run Try.prog W1 = .ok (.tuple #[]) (W1.setCells g (i + (l0.length - j)) (List.replicate (l0.length - (i + (l0.length - j))) (.int .i64 0))) :=
    fun ty => Lib.run_clear_slice W1 _ _ ty _ Try.underlying22 (fun w => by simp [zeroValue, typeInfo, hi0, hz0, Result.andThen]) rfl rfl g (i + (l0.length - j)) _ _ (by omega) (fun t ht => by
      rw [blk_cell hb1, Array.getElem?_eq_getElem (by rw [putL_size]; omega)]; rfl) (fun t ht => blk_frozen hb1 _)
  have X := Aside0.mk hb1
  have hW := Aside0.mk hW1
  suffices hs_ : Calls Try.prog 38 #[.slice (some ⟨g, 0, none⟩) l0.length cap, .int .i64 (i : Int), .int .i64 (j : Int)] w (DelPost w base ok (.slice (some ⟨g, 0, none⟩) l0.length cap) (l0.take i ++ l0.drop j)) from hs_
  have Hfin : Aside0 (DelPost w base ok (.slice (some ⟨g, 0, none⟩) l0.length cap) (l0.take i ++ l0.drop j) (.returned (.slice (some ⟨g, 0, none⟩) (i + (l0.length - j)) cap)) (W1.setCells g (i + (l0.length - j)) (List.replicate (l0.length - (i + (l0.length - j))) (.int .i64 0)))) := ⟨by
    show ∃ v', Ending.returned (Value.slice (some ⟨g, 0, none⟩) (i + (l0.length - j)) cap) = .returned v' ∧ Kd.R (Kd.int .i64) 3 (W1.setCells g (i + (l0.length - j)) (List.replicate (l0.length - (i + (l0.length - j))) (.int .i64 0))) base ok v' (l0.take i ++ l0.drop j) ∧ w.grownBy (W1.setCells g (i + (l0.length - j)) (List.replicate (l0.length - (i + (l0.length - j))) (.int .i64 0))) (some g) ∧ v'.ownBlock = some g
    have hll : (l0.take i ++ l0.drop j).length = i + (l0.length - j) := by rw [List.length_append, List.length_take, List.length_drop]; omega
    refine ⟨_, rfl, Kd.R_of_own ?_ h0, ?_, rfl⟩
    · rw [hll]
      refine ⟨by rw [encs_length, hll]; omega, .inr ⟨g, cap, _, rfl, hbg, blk_setCells _ _ _ _ hb1, by omega, hcm, by rw [putL_size, putL_size, hcsz]; omega, ?_⟩⟩
      apply List.ext_getElem?
      intro k
      rw [Nat.mul_one]
      rcases Nat.lt_or_ge k (i + (l0.length - j)) with hk | hk
      · rw [List.getElem?_take_of_lt hk, Array.getElem?_toList, putL_get _ _ _ _ (by rw [putL_size, List.length_replicate]; omega), if_neg (by omega), putL_get _ _ _ _ (by rw [hlen]; omega)]
        rw [hlen]
        by_cases hk1 : k < i
        · rw [if_neg (by omega), hget k (by omega)]
          simp only [encs, List.getElem?_map, List.getD_eq_getElem?_getD]
          rw [List.getElem?_append_left (by rw [List.length_take]; omega), List.getElem?_take_of_lt hk1, List.getElem?_eq_getElem (show k < l0.length by omega)]
          rfl
        · rw [if_pos (by omega), hnews]
          simp only [encs, List.getElem?_map]
          rw [List.getElem?_append_right (by rw [List.length_take]; omega), List.length_take, Nat.min_eq_left (by omega), show k - (0 + i * 1) = k - i by omega]
      · rw [List.getElem?_eq_none (by rw [List.length_take]; omega), List.getElem?_eq_none (by rw [encs_length, hll]; omega)]
    · refine grown_setCells _ _ _ _ ?_
      rw [hW1]
      exact grown_setCells _ _ _ _ ⟨rfl, rfl, rfl, Nat.le_refl _, fun _ _ _ => rfl⟩⟩
  have hic : i ≤ cap := by omega
  have hjc : j ≤ cap := by omega
  have hne : ((i : Int) == (j : Int)) = false := by rw [beq_eq_false_iff_ne]; omega
  have hne2 : (i == j) = false := by rw [beq_eq_false_iff_ne]; omega
  clear hW1 hb1 hget hnews hlen htk hcs hcsz hcm hblk hblkd h0 hok hn0 hel hbg q0 q1 q2 hz0 hz2
  go_enter Try.func38, Try.ntmps38
  go_wp2_with fail
  go_region_law (refine step_append_room rfl (.tmp 22) (.tmp 25) 22 rfl 3 i0 1 Try.underlying22 hi0 hz1 g 0 i cap (by simp [Act.eval, Act.put]) A (l0.length - j) (cap - j) news (by simp [Act.eval, Act.put]) s1.out hsrc.out s2.out (by omega) s3.out ?_; rw [← hW.out])
  go_wp2
  go_ret
  exact Hfin.out


end Go.Proofs.Ytdgdjbehddeepaa.PAll
