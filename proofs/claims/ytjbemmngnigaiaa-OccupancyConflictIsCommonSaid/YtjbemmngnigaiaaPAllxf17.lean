/- What calls of the Go functions below do, each under the premises that its theorem states. Laid by a program of the claimant, which drives the kit's print; some texts are written by hand. -/
import Derived.Test.YtjbemmngnigaiaaPAllx0
namespace Go.Proofs.Ytjbemmngnigaiaa.PAll
open Go.RowKit Go.Proofs.YtjbemmngnigaiaaW.PrintWords Go.Proofs.YtjbemmngnigaiaaW.PrintLast Go.Proofs.YtjbemmngnigaiaaW.PrintMore
attribute [local go_sem] max2_int min2_int max_two min_two max_three min_three max_four min_four   -- for this text's walks alone
set_option linter.unusedVariables false
set_option linter.unusedSimpArgs false

/-! ### helpers of this session -/
theorem bcell_ {W w1 : World} (hb : Below W.heap.size W w1) : (∀ b o, b < W.heap.size → w1.cell? ⟨b, o, none⟩ = W.cell? ⟨b, o, none⟩) ∧ (∀ b o, b < W.heap.size → w1.frozen? ⟨b, o, none⟩ = W.frozen? ⟨b, o, none⟩) :=
  ⟨fun b o h => hb.cell (p := ⟨b, o, none⟩) h, fun b o h => hb.frozen (p := ⟨b, o, none⟩) h⟩
theorem bcell2_ {W w1 : World} {A : Nat} (hb : Below W.heap.size W w1) (hA : A ≤ W.heap.size) : (∀ b o, b < A → w1.cell? ⟨b, o, none⟩ = W.cell? ⟨b, o, none⟩) := fun b o h => hb.cell (p := ⟨b, o, none⟩) (Nat.lt_of_lt_of_le h hA)
/-- A block that holds elements is read as their list. -/
theorem C_of_block {α : Type} {d : Kd α} {W : World} {b t : Nat} {cs : Array Value} {xs : List α} (h : W.heap[b]? = some (.cells cs t (0, 0))) (hr : Reps (d.K W) d.sz xs cs.toList) (hn : xs.length ≤ 9223372036854775807) : Kd.C d W (some ⟨b, 0, none⟩) xs.length xs := by
  refine ⟨rfl, hn, fun _ => ⟨_, rfl, fun j p hj => ⟨(cs.toList.drop (j * d.sz)).take d.sz, d.K_len (hr.2 j p hj), hr.2 j p hj, fun i u hu => ?_⟩⟩⟩
  rw [add_plain]
  refine (blk_cell h _).trans ?_
  rw [List.getElem?_take] at hu
  split at hu
  · rw [List.getElem?_drop, Array.getElem?_toList] at hu
    exact hu
  · cases hu
theorem C_ints {W : World} {b t : Nat} {cs : Array Value} {xs : List Int} (h : W.heap[b]? = some (.cells cs t (0, 0))) (hr : cs.toList = xs.map (Value.int .i64)) (hn : xs.length ≤ 9223372036854775807) : Kd.C (Kd.int .i64) W (some ⟨b, 0, none⟩) xs.length xs := by
  refine C_of_block h ?_ hn
  rw [hr]
  refine ⟨by simp [Kd.int, Kd.scalar], fun j p hj => ?_⟩
  show _ = [_]
  have hl := (List.getElem?_eq_some_iff.1 hj)
  obtain ⟨hl, rfl⟩ := hl
  simp only [Kd.int, Kd.scalar, Nat.mul_one]
  rw [List.drop_eq_getElem_cons (by simpa using hl)]
  simp
/-! #### arguments that are read as data -/
/-- What is read as data of type t is of kind d. -/
def RK {α : Type} (P : Program) (W : World) (t : TypeId) (d : Kd α) (wf : α → Prop) : Prop :=
  ∀ (H : Type) (enc : TypeId × Value → H) (fuel : Nat) (cs : List Value) (x : DataW H × List MemPlace), DataW.trod enc P W 0 (fun _ => true) true fuel t cs = some x → ∃ a, d.K W a cs ∧ wf a
theorem RK.int {P : Program} {W : World} {t : TypeId} (k : IntKind) (ht : P.underlying t = some (.int k)) : RK P W t (Kd.int k) (fun n => (Lit.int k n).wf = true) := fun H enc fuel cs x h => by
  obtain ⟨n, rfl, _, hw⟩ := DataW.trod_int ht h
  exact ⟨n, rfl, hw⟩
theorem RK.bool {P : Program} {W : World} {t : TypeId} (ht : P.underlying t = some .bool) : RK P W t Kd.bool (fun _ => True) := fun H enc fuel cs x h => by
  obtain ⟨n, rfl, _⟩ := DataW.trod_bool ht h
  exact ⟨n, rfl, trivial⟩
theorem RK.string {P : Program} {W : World} {t : TypeId} (ht : P.underlying t = some .string) : RK P W t Kd.string (fun s => s.size ≤ maxLen) := fun H enc fuel cs x h => by
  obtain ⟨n, rfl, _, hs⟩ := DataW.trod_string ht h
  exact ⟨n, rfl, hs⟩
theorem rows_read {α : Type} {P : Program} {W : World} {d : Kd α} {wf : α → Prop} (a : Addr) (len : Nat) (h : ∀ i, i < len → ∃ x cs', W.cells? 0 (a.add (i * d.sz)) d.sz = some cs' ∧ d.K W x cs' ∧ wf x) :
    ∀ k, k ≤ len → ∃ xs : List α, xs.length = k ∧ (∀ x ∈ xs, wf x) ∧ ∀ i x, xs[i]? = some x → ∃ cs', W.cells? 0 (a.add (i * d.sz)) d.sz = some cs' ∧ d.K W x cs'
  | 0, _ => ⟨[], rfl, fun _ hx => absurd hx (by simp), fun i x hx => by simp at hx⟩
  | k + 1, hk => by
    obtain ⟨xs, hl, hw, hr⟩ := rows_read (P := P) (wf := wf) a len h k (by omega)
    obtain ⟨x, cs', hc, hK, hx⟩ := h k (by omega)
    refine ⟨xs ++ [x], by simp [hl], fun y hy => ?_, fun i y hy => ?_⟩
    · rcases List.mem_append.1 hy with hy | hy
      · exact hw y hy
      · rw [List.mem_singleton.1 hy]; exact hx
    · by_cases hi : i < xs.length
      · rw [List.getElem?_append_left hi] at hy
        exact hr i y hy
      · have hi' : i = xs.length := by
          have := (List.getElem?_eq_some_iff.1 hy).1
          simp at this; omega
        subst hi'
        have : x = y := by simpa using hy
        subst this
        rw [hl]
        exact ⟨cs', hc, hK⟩
theorem RK.slice {α : Type} {P : Program} {W : World} {t e : TypeId} {d : Kd α} {wf : α → Prop} (ht : P.underlying t = some (.slice e)) (hC : P.cellsOf e = d.sz) (hE : RK P W e d wf) : RK P W t (Kd.slice e d) (fun xs => ∀ x ∈ xs, wf x) := fun H enc fuel cs x h => by
  rcases Go.Deep.open_slice ht h with ⟨rfl, _⟩ | ⟨a, len, cap, m, n, D, Pl, rfl, _, hl, hm, hmm, _, hi⟩
  · exact ⟨[], ⟨none, 0, rfl, Nat.le_refl _, Kd.C_nil _ _⟩, fun x hx => absurd hx (by simp)⟩
  · simp only [if_true] at hmm
    obtain ⟨xs, hxl, hw, hr⟩ := rows_read (P := P) (d := d) (wf := wf) a len (fun i hil => by
      obtain ⟨cs', hc, ht'⟩ := hi i (by omega)
      obtain ⟨x, hK, hx⟩ := hE H enc n cs' _ ht'
      rw [hC] at hc
      exact ⟨x, cs', hc, hK, hx⟩) len (Nat.le_refl _)
    unfold maxLen at hm
    refine ⟨xs, ⟨some a, cap, by rw [hxl], by omega, rfl, by omega, fun _ => ⟨a, rfl, fun j p hj => ?_⟩⟩, hw⟩
    obtain ⟨cs', hc, hK⟩ := hr j p hj
    obtain ⟨_, hcl, hat⟩ := World.cells?_some hc
    refine ⟨cs', hcl, hK, fun i u hu => ?_⟩
    have hil : i < d.sz := by have := (List.getElem?_eq_some_iff.1 hu).1; omega
    have h1 := hat i hil
    rw [Go.Deep.add_add] at h1
    rw [h1]; exact hu

-- NOT PRINTED: function 37 (api_Use_37)

-- NOT PRINTED: function 28 (api_Use_28)

/-- The test that Valid hands to the library. -/
def badUse (u : S23) : Bool := decide (u.f0 < 0) || decide (u.f1 < 0) || decide (u.f2 < -1099511627776) || decide (u.f2 > 1099511627776) || decide (u.f3 < 1) || decide (u.f3 > 1099511627776) || decide (u.f4 < 0) || decide (u.f4 > 1099511627776)
def encUse (u : S23) : List Value := [.int .i64 u.f0, .int .i64 u.f1, .int .i64 u.f2, .int .i64 u.f3, .int .i64 u.f4]
instance : Inhabited S23 := ⟨z23⟩
theorem badUse_calls (u : S23) (W : World) : Calls Try.prog 29 #[.agg #[.int .i64 u.f0, .int .i64 u.f1, .int .i64 u.f2, .int .i64 u.f3, .int .i64 u.f4]] W fun e w' => e = .returned (.bool (badUse u)) ∧ Below W.heap.size W w' := by
  obtain ⟨f0, f1, f2, f3, f4⟩ := u
  have hu := Try.underlying23
  unfold badUse
  dsimp only
  go_enter Try.func29, Try.ntmps29
  go_wp2
  all_goals
    go_ret
    refine ⟨?_, below_alloc (Below.refl _ _) _⟩
    first
      | rfl
      | (congr 2; done)
      | (congr 2; simp; done)
      | (congr 2; simp; omega)
theorem spot_none {w : World} {a : Addr} {v : Value} (h : w.cell? a = some v) : a.spot = none := by
  unfold World.cell? at h
  split at h
  · split at h
    · cases h
    · rename_i hs
      simpa using hs
  · cases h
theorem badUse_idx0 (A : Option Addr) (c : Nat) (w : World) (f : Value) : Calls Try.prog 37 #[.slice A 0 c, f] w fun e w' => e = .returned (.int .i64 (-1)) ∧ Below w.heap.size w w' := by
  go_enter Try.func37, Try.ntmps37
  go_wp2
  go_loopg [8] 0 (fun g v8 w' => v8 = .int .i64 0 ∧ Below w.heap.size w w')
  case atStart => exact ⟨rfl, Below.refl _ _⟩
  case round =>
    obtain ⟨rfl, hb⟩ := hrel
    go_wp2
    go_ret
    exact ⟨rfl, hb⟩
open Go.Shelf in
theorem badUse_any (A : Option Addr) (c : Nat) (l : List S23) (w : World) (hr : Kd.C k23 w A l.length l) (hc : l.length ≤ 9223372036854775807) :
    Calls Try.prog 28 #[.slice A l.length c, .func (.func 29) #[] #[]] w fun e w' => e = .returned (.bool (l.any badUse)) ∧ Below w.heap.size w w' := by
  have eg : ∀ args w, (callFunc 29 args).run Try.prog w = .ok (.enter 29 args) w := enters_of Try.func29 (by kernel_rfl) rfl
  have hp : PredBelow Try.prog 29 #[] (fun x => .agg (encUse x).toArray) badUse w := fun W x hb => (badUse_calls x W).mono fun e w' h => ⟨h.1, below_step hb h.2⟩
  by_cases h0 : l.length = 0
  · have := List.eq_nil_of_length_eq_zero h0
    subst this
    go_enter Try.func28, Try.ntmps28
    go_wp2_with (go_at_call 37; refine (badUse_idx0 _ _ _ _).mono ?_; rintro e w' ⟨rfl, hb⟩)
    go_ret
    exact ⟨rfl, hb⟩
  · obtain ⟨ad, hA, h1, _⟩ := at_T23 hr 0 (by omega) (by omega)
    have hspot : ad.spot = none := spot_none h1
    obtain ⟨b, off, sp⟩ := ad
    cases hspot
    subst hA
    have hb : b < w.heap.size := World.block_lt_of_cell? w _ h1
    have := AnyQ.slices_ContainsFunc Try.l28 5 Try.isAgg23 Try.sizeOf23 encUse (fun _ => rfl) badUse 29 #[] eg b off l.length c l w hp (Nat.le_refl _) hc hb (fun j hj i v hi => by
      obtain ⟨ad', e', g0, g1, g2, g3, g4⟩ := at_T23 hr (j : Int) (by omega) (by omega)
      cases e'
      rw [Int.toNat_natCast] at g0 g1 g2 g3 g4
      have hx : rd_T23 l (j : Int) = l[j]! := by
        rw [show rd_T23 l (j : Int) = l.getD j z23 from rfl, List.getD_eq_getElem?_getD, List.getElem!_eq_getElem?_getD]
        rfl
      have ha : (⟨b, off, none⟩ : Addr).add (j * 5) = ⟨b, off + j * 5, none⟩ := by
        unfold Addr.add
        split
        · rename_i h; rw [h]; rfl
        · rfl
      rw [hx] at g0 g1 g2 g3 g4
      rw [ha] at g0 g1 g2 g3 g4
      generalize l[j]! = y at hi g0 g1 g2 g3 g4
      match i, hi with
      | 0, hi => simp [encUse] at hi; rw [← hi]; exact g0
      | 1, hi => simp [encUse] at hi; rw [← hi]; exact g1
      | 2, hi => simp [encUse] at hi; rw [← hi]; exact g2
      | 3, hi => simp [encUse] at hi; rw [← hi]; exact g3
      | 4, hi => simp [encUse] at hi; rw [← hi]; exact g4
      | i + 5, hi => simp [encUse] at hi)
    rw [List.take_length] at this
    exact this

def usBox (W : World) (g : Nat) (a : S23) : Prop := W.heap[g]? = some (.cells #[.int .i64 a.f0, .int .i64 a.f1, .int .i64 a.f2, .int .i64 a.f3, .int .i64 a.f4] 23 (0, 0))
theorem cell_bo {w W : World} (hb : Below w.heap.size w W) {a : Addr} {v : Value} (h : w.cell? a = some v) : W.cell? a = some v := (hb.cell (World.block_lt_of_cell? w _ h)).trans h
theorem usBox.cells {W : World} {g : Nat} {a : S23} (h : usBox W g a) : W.cell? ⟨g, 0, none⟩ = some (.int .i64 a.f0) ∧ W.cell? ⟨g, 1, none⟩ = some (.int .i64 a.f1) ∧ W.cell? ⟨g, 2, none⟩ = some (.int .i64 a.f2) ∧ W.cell? ⟨g, 3, none⟩ = some (.int .i64 a.f3) ∧ W.cell? ⟨g, 4, none⟩ = some (.int .i64 a.f4) :=
  ⟨blk_cell h 0, blk_cell h 1, blk_cell h 2, blk_cell h 3, blk_cell h 4⟩
theorem usBox.below {W W' : World} {g : Nat} {a : S23} (h : usBox W g a) (hb : Below W.heap.size W W') : usBox W' g a := (hb.block g (blk_lt h)).trans h
theorem usBox.grown {W W' : World} {g : Nat} {a : S23} (h : usBox W g a) {row : Option Nat} (hg : W.grownBy W' row) (hne : some g ≠ row) : usBox W' g a := (hg.block g (blk_lt h) hne).trans h

/-! ### occupancy_Valid: function 17 -/
def occupancy_Valid.f (t : Int) (l : List S23) : Option Bool := some (decide (2 ≤ t) && decide (t ≤ 7200) && !l.any badUse)
set_option maxHeartbeats 8000000 in
set_option maxRecDepth 100000 in
theorem occupancy_Valid.calls (a0 : Int) (A1 : Option Addr) (c1 : Nat) (l1 : List S23) (r : Bool) (w : World) (hr1 : Kd.C k23 w A1 l1.length l1) (hc1 : l1.length ≤ c1) (h : occupancy_Valid.f a0 l1 = some r) :
    Calls Try.prog 17 #[.int .i64 a0, .slice A1 l1.length c1] w fun e w' => e = .returned (.bool r) ∧ Below w.heap.size w w' := by
  obtain rfl := Option.some.inj h
  have K := Aside0.mk (badUse_any A1 c1 l1 w hr1 hr1.2.1)
  clear h hr1 hc1
  generalize l1.any badUse = b at K
  go_enter Try.func17, Try.ntmps17
  go_wp2_with (go_at_call 28; (with_reducible refine K.out.mono ?_); rintro e w' ⟨rfl, hb⟩)
  all_goals
    go_ret
    refine ⟨?_, by first | exact Below.refl _ _ | assumption⟩
    first
      | rfl
      | (congr 2; done)
      | (congr 2; simp [*]; done)
      | (congr 2; simp [*]; omega)

/-! ### arith_FloorDiv: function 30 -/
def arith_FloorDiv.f (a0 : Int) (a1 : Int) : Option (Int × Int) := if a1 < 1 then (some (0, 1)) else (if a1 = 0 then (none) else (if (Int.tmod a0 a1) < 0 then (some (wrap64 ((wrap64 (Int.tdiv a0 a1)) - 1), 0)) else (some (wrap64 (Int.tdiv a0 a1), 0))))
set_option maxHeartbeats 8000000 in
set_option maxRecDepth 100000 in
theorem arith_FloorDiv.calls (a0 : Int) (a1 : Int) (r1 : Int) (r2 : Int) (w : World) (h : arith_FloorDiv.f a0 a1 = some (r1, r2)) :
    Calls Try.prog 30 #[.int .i64 a0, .int .i64 a1] w fun e w' => e = .returned (.tuple #[.int .i64 r1, .int .i64 r2]) ∧ Drawn0 w w' := by
  have H : (if a1 < 1 then (some (0, 1)) else (if a1 = 0 then (none) else (if (Int.tmod a0 a1) < 0 then (some (wrap64 ((wrap64 (Int.tdiv a0 a1)) - 1), 0)) else (some (wrap64 (Int.tdiv a0 a1), 0))))) = some (r1, r2) := h
  clear h
  by_cases c3 : a1 < 1
  · rw [if_pos c3] at H
    have c3b0 : decide (a1 < 1) = true := decide_eq_true c3
    clear c3
    simp only [Option.some.injEq, Prod.mk.injEq] at H
    obtain ⟨rfl, rfl⟩ := H
    go_enter Try.func30, Try.ntmps30
    go_wp2
    go_ret2
    exact ⟨by first | rfl | (simp; done) | (simp [*]; done), by repeat (first | exact Drawn0.refl _ | apply Drawn0.step)⟩
  · rw [if_neg c3] at H
    have c3b0 : decide (a1 < 1) = false := decide_eq_false c3
    clear c3
    by_cases c4 : a1 = 0
    · rw [if_pos c4] at H
      exact absurd H (by simp)
    · rw [if_neg c4] at H
      have c4b0 : (a1 == 0) = false := beq_eq_false_iff_ne.mpr c4
      have c4b1 : (a1 != 0) = true := bne_iff_ne.mpr c4
      by_cases c5 : (Int.tmod a0 a1) < 0
      · rw [if_pos c5] at H
        have c5b0 : decide ((Int.tmod a0 a1) < 0) = true := decide_eq_true c5
        clear c5
        simp only [Option.some.injEq, Prod.mk.injEq] at H
        obtain ⟨rfl, rfl⟩ := H
        go_enter Try.func30, Try.ntmps30
        go_wp2
        go_ret2
        exact ⟨by first | rfl | (simp; done) | (simp [*]; done), by repeat (first | exact Drawn0.refl _ | apply Drawn0.step)⟩
      · rw [if_neg c5] at H
        have c5b0 : decide ((Int.tmod a0 a1) < 0) = false := decide_eq_false c5
        clear c5
        simp only [Option.some.injEq, Prod.mk.injEq] at H
        obtain ⟨rfl, rfl⟩ := H
        go_enter Try.func30, Try.ntmps30
        go_wp2
        go_ret2
        exact ⟨by first | rfl | (simp; done) | (simp [*]; done), by repeat (first | exact Drawn0.refl _ | apply Drawn0.step)⟩

/-! ### arith_CeilDiv: function 31 -/
def arith_CeilDiv.f (a0 : Int) (a1 : Int) : Option (Int × Int) := if a1 < 1 then (some (0, 1)) else (if a1 = 0 then (none) else (if (Int.tmod a0 a1) > 0 then (some (wrap64 ((wrap64 (Int.tdiv a0 a1)) + 1), 0)) else (some (wrap64 (Int.tdiv a0 a1), 0))))
set_option maxHeartbeats 8000000 in
set_option maxRecDepth 100000 in
theorem arith_CeilDiv.calls (a0 : Int) (a1 : Int) (r1 : Int) (r2 : Int) (w : World) (h : arith_CeilDiv.f a0 a1 = some (r1, r2)) :
    Calls Try.prog 31 #[.int .i64 a0, .int .i64 a1] w fun e w' => e = .returned (.tuple #[.int .i64 r1, .int .i64 r2]) ∧ Drawn0 w w' := by
  have H : (if a1 < 1 then (some (0, 1)) else (if a1 = 0 then (none) else (if (Int.tmod a0 a1) > 0 then (some (wrap64 ((wrap64 (Int.tdiv a0 a1)) + 1), 0)) else (some (wrap64 (Int.tdiv a0 a1), 0))))) = some (r1, r2) := h
  clear h
  by_cases c3 : a1 < 1
  · rw [if_pos c3] at H
    have c3b0 : decide (a1 < 1) = true := decide_eq_true c3
    clear c3
    simp only [Option.some.injEq, Prod.mk.injEq] at H
    obtain ⟨rfl, rfl⟩ := H
    go_enter Try.func31, Try.ntmps31
    go_wp2
    go_ret2
    exact ⟨by first | rfl | (simp; done) | (simp [*]; done), by repeat (first | exact Drawn0.refl _ | apply Drawn0.step)⟩
  · rw [if_neg c3] at H
    have c3b0 : decide (a1 < 1) = false := decide_eq_false c3
    clear c3
    by_cases c4 : a1 = 0
    · rw [if_pos c4] at H
      exact absurd H (by simp)
    · rw [if_neg c4] at H
      have c4b0 : (a1 == 0) = false := beq_eq_false_iff_ne.mpr c4
      have c4b1 : (a1 != 0) = true := bne_iff_ne.mpr c4
      by_cases c5 : (Int.tmod a0 a1) > 0
      · rw [if_pos c5] at H
        have c5b0 : decide (0 < (Int.tmod a0 a1)) = true := decide_eq_true c5
        clear c5
        simp only [Option.some.injEq, Prod.mk.injEq] at H
        obtain ⟨rfl, rfl⟩ := H
        go_enter Try.func31, Try.ntmps31
        go_wp2
        go_ret2
        exact ⟨by first | rfl | (simp; done) | (simp [*]; done), by repeat (first | exact Drawn0.refl _ | apply Drawn0.step)⟩
      · rw [if_neg c5] at H
        have c5b0 : decide (0 < (Int.tmod a0 a1)) = false := decide_eq_false c5
        clear c5
        simp only [Option.some.injEq, Prod.mk.injEq] at H
        obtain ⟨rfl, rfl⟩ := H
        go_enter Try.func31, Try.ntmps31
        go_wp2
        go_ret2
        exact ⟨by first | rfl | (simp; done) | (simp [*]; done), by repeat (first | exact Drawn0.refl _ | apply Drawn0.step)⟩

end Go.Proofs.Ytjbemmngnigaiaa.PAll
