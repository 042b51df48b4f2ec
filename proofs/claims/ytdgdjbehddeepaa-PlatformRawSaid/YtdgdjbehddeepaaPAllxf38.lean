/- What calls of the Go functions below do, each under the premises that its theorem states. Laid by a program of the claimant, which drives the kit's print; some texts are written by hand. -/
import Derived.Test.YtdgdjbehddeepaaPAllx0
namespace Go.Proofs.Ytdgdjbehddeepaa.PAll
open Go.RowKit Go.Proofs.YtdgdjbehddeepaaW.PrintWords Go.Proofs.YtdgdjbehddeepaaW.PrintLast Go.Proofs.YtdgdjbehddeepaaW.PrintMore
attribute [local go_sem] max2_int min2_int max_two min_two max_three min_three max_four min_four   -- for this text's walks alone
set_option linter.unusedVariables false
set_option linter.unusedSimpArgs false

/-- Cells put into a row from o on. -/
def putL : Array Value → Nat → List Value → Array Value
  | c, _, [] => c
  | c, o, v :: r => putL (c.setIfInBounds o v) (o + 1) r
theorem putL_size : ∀ (vs : List Value) (c : Array Value) (o : Nat), (putL c o vs).size = c.size
  | [], _, _ => rfl
  | v :: r, c, o => by simp [putL, putL_size r]
theorem putL_get : ∀ (vs : List Value) (c : Array Value) (o k : Nat), o + vs.length ≤ c.size → (putL c o vs)[k]? = if o ≤ k ∧ k < o + vs.length then vs[k - o]? else c[k]?
  | [], c, o, k, _ => by
    rw [if_neg (by rw [List.length_nil]; omega)]; rfl
  | v :: r, c, o, k, h => by
    rw [List.length_cons] at h
    show (putL (c.setIfInBounds o v) (o + 1) r)[k]? = _
    rw [putL_get r _ (o + 1) k (by simp; omega)]
    by_cases h1 : k = o
    · subst h1
      rw [if_neg (by omega), if_pos (by rw [List.length_cons]; omega), Nat.sub_self, Array.getElem?_setIfInBounds_self_of_lt (by omega)]
      rfl
    · by_cases h2 : o + 1 ≤ k ∧ k < o + 1 + r.length
      · rw [if_pos h2, if_pos (by rw [List.length_cons]; omega), show k - o = k - (o + 1) + 1 by omega]
        rfl
      · rw [if_neg h2, if_neg (by rw [List.length_cons]; omega), Array.getElem?_setIfInBounds_ne (by omega)]
theorem blk_setCells {g : Nat} {t : TypeId} : ∀ (vs : List Value) (o : Nat) (w : World) (cs : Array Value), w.heap[g]? = some (.cells cs t (0, 0)) → (w.setCells g o vs).heap[g]? = some (.cells (putL cs o vs) t (0, 0))
  | [], _, _, _, h => h
  | v :: r, o, w, cs, h => blk_setCells r (o + 1) _ _ (blk_set h o v)
theorem grown_setCells {g : Nat} : ∀ (vs : List Value) (o : Nat) (w w1 : World), w.grownBy w1 (some g) → w.grownBy (w1.setCells g o vs) (some g)
  | [], _, _, _, h => h
  | v :: r, o, w, w1, h => grown_setCells r (o + 1) w _ ⟨h.os, h.tape, h.output, by simpa [World.setCell] using h.size, fun k hk hne => (Below.heap_setCell w1 ⟨g, o, none⟩ v k (fun e => hne (by rw [e]))).trans (h.block k hk hne)⟩

/-! ### slices_Delete_int_int: function 38 -/
def slices_Delete_int_int.f (l0 : List Int) (a1 a2 : Int) : Option (List Int) := if 0 ≤ a1 then if a1 < a2 then if a2 ≤ (l0.length : Int) then some (l0.take a1.toNat ++ l0.drop a2.toNat) else none else none else none
def DelPost (w : World) (base : Nat) (ok : Nat → Prop) (v : Value) (r : List Int) (e : Ending) (w' : World) : Prop := ∃ v' : Value, e = .returned v' ∧ Kd.R (Kd.int .i64) 3 w' base ok v' r ∧ w.grownBy w' v.ownBlock ∧ v'.ownBlock = v.ownBlock
set_option maxHeartbeats 8000000 in
set_option maxRecDepth 100000 in
theorem slices_Delete_int_int.callsR (base : Nat) (ok : Nat → Prop) (v : Value) (l0 : List Int) (a1 a2 : Int) (r : List Int) (w : World) (hR : Kd.R (Kd.int .i64) 3 w base ok v l0) (h : slices_Delete_int_int.f l0 a1 a2 = some r) :
    Calls Try.prog 38 #[v, .int .i64 a1, .int .i64 a2] w fun e w' => ∃ v' : Value, e = .returned v' ∧ Kd.R (Kd.int .i64) 3 w' base ok v' r ∧ w.grownBy w' v.ownBlock ∧ v'.ownBlock = v.ownBlock := by
  have hq : 0 ≤ a1 ∧ a1 < a2 ∧ a2 ≤ (l0.length : Int) ∧ l0.take a1.toNat ++ l0.drop a2.toNat = r := by
    unfold slices_Delete_int_int.f at h
    split at h
    · split at h
      · split at h
        · exact ⟨by assumption, by assumption, by assumption, Option.some.inj h⟩
        · cases h
      · cases h
    · cases h
  clear h
  obtain ⟨q0, q1, q2, rfl⟩ := hq
  obtain ⟨i, rfl⟩ := Int.eq_ofNat_of_zero_le q0
  obtain ⟨j, rfl⟩ := Int.eq_ofNat_of_zero_le (show 0 ≤ a2 by omega)
  rw [Int.toNat_natCast, Int.toNat_natCast]
  have hij : i < j := by omega
  have hj : j ≤ l0.length := by omega
  have h0 := hR.1
  have hok := h0
  obtain ⟨hn0, hown⟩ := Kd.own_of_R hR
  clear hR
  rcases hown with ⟨_, hz⟩ | ⟨g, cap, cur, hv, hbg, hblk, hnc, hcm, hcs, htk⟩
  · omega
  subst hv
  have hel : (encs (Value.int .i64) l0).length = l0.length := encs_length _
  have hcm' : cap ≤ 9223372036854775807 := by simpa [maxLen] using hcm
  have hcsz : cur.size = cap := by rw [hcs]; omega
  have hget : ∀ k, k < l0.length → cur[k]? = some (.int .i64 (l0.getD k 0)) := by
    intro k hk
    have e1 : (cur.toList.take (l0.length * 1))[k]? = some (.int .i64 (l0.getD k 0)) := by
      rw [htk]
      simp [encs, List.getElem?_eq_getElem hk, List.getD_eq_getElem?_getD]
    rw [Nat.mul_one, List.getElem?_take_of_lt hk, Array.getElem?_toList] at e1
    exact e1
  obtain ⟨news, hnews⟩ : ∃ news, news = (l0.drop j).map (Value.int .i64) := ⟨_, rfl⟩
  have hlen : news.length = l0.length - j := by rw [hnews]; simp
  have hblkd : w.drew.heap[g]? = some (.cells cur 3 (0, 0)) := hblk
  obtain ⟨A, hA, hsrc⟩ : ∃ A : Addr, (if cap = j then some (⟨g, 0, none⟩ : Addr) else some ⟨g, j, none⟩) = some A ∧ Aside0 (∀ t u, news[t]? = some u → w.drew.cell? (A.add t) = some u) := by
    by_cases hc : cap = j
    · refine ⟨⟨g, 0, none⟩, by simp [hc], ⟨fun t u hu => ?_⟩⟩
      have h0 : news.length = 0 := by rw [hlen]; omega
      rw [List.length_eq_zero_iff.1 h0] at hu
      simp at hu
    · refine ⟨⟨g, j, none⟩, by simp [hc], ⟨fun t u hu => ?_⟩⟩
      have ht : t < l0.length - j := by
        have := (List.getElem?_eq_some_iff.1 hu).1
        rwa [hlen] at this
      rw [Addr.add_lit]
      refine (blk_cell hblkd _).trans ?_
      rw [hget _ (by omega), ← hu, hnews, List.getElem?_map, List.getElem?_drop, List.getElem?_eq_getElem (by omega), List.getD_eq_getElem?_getD, List.getElem?_eq_getElem (by omega)]
      rfl
  obtain ⟨i0, hi0, hz0, hz1, hz2⟩ := info_parts info3
  have s1 : Aside0 (news.length = (l0.length - j) * 1) := ⟨by rw [Nat.mul_one]; exact hlen⟩
  have s2 : Aside0 (∀ u ∈ news, u.oneCell' = true) := ⟨by
    intro u hu
    rw [hnews] at hu
    obtain ⟨x, _, rfl⟩ := List.mem_map.1 hu
    rfl⟩
  have s3 : Aside0 (∀ t, t < news.length → (w.drew.cell? ⟨g, 0 + i * 1 + t, none⟩).isSome = true ∧ w.drew.frozen? ⟨g, 0 + i * 1 + t, none⟩ = false) := ⟨by
    intro t ht
    rw [hlen] at ht
    refine ⟨?_, blk_frozen hblkd _⟩
    rw [blk_cell hblkd, hget _ (by omega)]
    rfl⟩
  obtain ⟨W1, hW1⟩ : ∃ W1, W1 = w.drew.setCells g (0 + i * 1) news := ⟨_, rfl⟩
  have hb1 : W1.heap[g]? = some (.cells (putL cur (0 + i * 1) news) 3 (0, 0)) := by rw [hW1]; exact blk_setCells _ _ _ _ hblkd
  have hcl : ∀ ty, (Builtin.clear_ #[22] ty #[.slice (some ⟨g, i + (l0.length - j), none⟩) (l0.length - (i + (l0.length - j))) (cap - (i + (l0.length - j)))]).run Try.prog W1 = .ok (.tuple #[]) (W1.setCells g (i + (l0.length - j)) (List.replicate (l0.length - (i + (l0.length - j))) (.int .i64 0))) :=
    fun ty => Lib.run_clear_slice W1 _ _ ty _ Try.underlying22 (fun w => by simp [zeroValue, typeInfo, hi0, hz0, Result.andThen]) rfl rfl g (i + (l0.length - j)) _ _ (by omega) (fun t ht => by
      rw [blk_cell hb1, Array.getElem?_eq_getElem (by rw [putL_size]; omega)]; rfl) (fun t ht => blk_frozen hb1 _)
  have X := Aside0.mk hb1
  have hW := Aside0.mk hW1
  suffices hs_ : Calls Try.prog 38 #[.slice (some ⟨g, 0, none⟩) l0.length cap, .int .i64 (i : Int), .int .i64 (j : Int)] w (DelPost w base ok (.slice (some ⟨g, 0, none⟩) l0.length cap) (l0.take i ++ l0.drop j)) from hs_
  have Hfin : Aside0 (DelPost w base ok (.slice (some ⟨g, 0, none⟩) l0.length cap) (l0.take i ++ l0.drop j) (.returned (.slice (some ⟨g, 0, none⟩) (i + (l0.length - j)) cap)) (W1.setCells g (i + (l0.length - j)) (List.replicate (l0.length - (i + (l0.length - j))) (.int .i64 0)))) := ⟨by
    show ∃ v', Ending.returned (Value.slice (some ⟨g, 0, none⟩) (i + (l0.length - j)) cap) = .returned v' ∧ Kd.R (Kd.int .i64) 3 (W1.setCells g (i + (l0.length - j)) (List.replicate (l0.length - (i + (l0.length - j))) (.int .i64 0))) base ok v' (l0.take i ++ l0.drop j) ∧ w.grownBy (W1.setCells g (i + (l0.length - j)) (List.replicate (l0.length - (i + (l0.length - j))) (.int .i64 0))) (some g) ∧ v'.ownBlock = some g
    have hll : (l0.take i ++ l0.drop j).length = i + (l0.length - j) := by rw [List.length_append, List.length_take, List.length_drop]; omega
    refine ⟨_, rfl, Kd.R_of_own ?_ h0, ?_, rfl⟩
    · rw [hll]
      refine ⟨by rw [encs_length, hll]; omega, .inr ⟨g, cap, _, rfl, hbg, blk_setCells _ _ _ _ hb1, by omega, hcm, by rw [putL_size, putL_size, hcsz]; omega, ?_⟩⟩
      apply List.ext_getElem?
      intro k
      rw [Nat.mul_one]
      rcases Nat.lt_or_ge k (i + (l0.length - j)) with hk | hk
      · rw [List.getElem?_take_of_lt hk, Array.getElem?_toList, putL_get _ _ _ _ (by rw [putL_size, List.length_replicate]; omega), if_neg (by omega), putL_get _ _ _ _ (by rw [hlen]; omega)]
        rw [hlen]
        by_cases hk1 : k < i
        · rw [if_neg (by omega), hget k (by omega)]
          simp only [encs, List.getElem?_map, List.getD_eq_getElem?_getD]
          rw [List.getElem?_append_left (by rw [List.length_take]; omega), List.getElem?_take_of_lt hk1, List.getElem?_eq_getElem (show k < l0.length by omega)]
          rfl
        · rw [if_pos (by omega), hnews]
          simp only [encs, List.getElem?_map]
          rw [List.getElem?_append_right (by rw [List.length_take]; omega), List.length_take, Nat.min_eq_left (by omega), show k - (0 + i * 1) = k - i by omega]
      · rw [List.getElem?_eq_none (by rw [List.length_take]; omega), List.getElem?_eq_none (by rw [encs_length, hll]; omega)]
    · refine grown_setCells _ _ _ _ ?_
      rw [hW1]
      exact grown_setCells _ _ _ _ ⟨rfl, rfl, rfl, Nat.le_refl _, fun _ _ _ => rfl⟩⟩
  have hic : i ≤ cap := by omega
  have hjc : j ≤ cap := by omega
  have hne : ((i : Int) == (j : Int)) = false := by rw [beq_eq_false_iff_ne]; omega
  have hne2 : (i == j) = false := by rw [beq_eq_false_iff_ne]; omega
  clear hW1 hb1 hget hnews hlen htk hcs hcsz hcm hblk hblkd h0 hok hn0 hel hbg q0 q1 q2 hz0 hz2
  go_enter Try.func38, Try.ntmps38
  go_wp2_with fail
  go_region_law (refine step_append_room rfl (.tmp 22) (.tmp 25) 22 rfl 3 i0 1 Try.underlying22 hi0 hz1 g 0 i cap (by simp [Act.eval, Act.put]) A (l0.length - j) (cap - j) news (by simp [Act.eval, Act.put]) s1.out hsrc.out s2.out (by omega) s3.out ?_; rw [← hW.out])
  go_wp2
  go_ret
  exact Hfin.out


end Go.Proofs.Ytdgdjbehddeepaa.PAll
