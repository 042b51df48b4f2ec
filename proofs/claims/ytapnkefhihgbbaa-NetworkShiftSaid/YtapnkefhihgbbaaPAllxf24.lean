/- What calls of the Go functions below do, each under the premises that its theorem states. Laid by a program of the claimant, which drives the kit's print; some texts are written by hand. -/
import Derived.Test.YtapnkefhihgbbaaPAllx0
import Derived.Test.YtapnkefhihgbbaaPAllxf12
import Derived.Test.YtapnkefhihgbbaaPAllxf29
import Derived.Test.YtapnkefhihgbbaaPAllxf30
import Derived.Test.YtapnkefhihgbbaaPAllxf42
import Derived.Test.YtapnkefhihgbbaaPAllxf45
import Derived.Test.YtapnkefhihgbbaaPAllxpre
namespace Go.Proofs.Ytapnkefhihgbbaa.PAll
open Go.RowKit Go.Proofs.YtapnkefhihgbbaaW.PrintWords Go.Proofs.YtapnkefhihgbbaaW.PrintLast Go.Proofs.YtapnkefhihgbbaaW.PrintMore
attribute [local go_sem] max2_int min2_int max_two min_two max_three min_three max_four min_four   -- for this text's walks alone
set_option linter.unusedVariables false
set_option linter.unusedSimpArgs false

/-! ### network_First: function 24 -/
theorem tmod_emod_ (a m : Int) : a % m = (Int.tmod a m) % m := by
  conv => lhs; rw [← Int.tmod_add_mul_tdiv a m]
  exact Int.add_mul_emod_self_left ..
theorem arith_Mod.eq (a m : Int) (h1 : 1 ≤ m) (h2 : m ≤ 4611686018427387904) : arith_Mod.f a m = some (a % m) := by
  unfold arith_Mod.f
  rw [if_neg (by omega), if_neg (by omega)]
  have e := tmod_emod_ a m
  have hlt := Int.tmod_lt_of_pos a (show 0 < m by omega)
  have hgt := Int.lt_tmod_of_pos a (show 0 < m by omega)
  by_cases h : Int.tmod a m < 0
  · rw [if_pos h]
    have e2 : wrap64 (Int.tmod a m + m) = Int.tmod a m + m := by unfold wrap64; omega
    have e3 : (Int.tmod a m + m) % m = Int.tmod a m % m := Int.add_emod_right ..
    rw [e2, e, ← e3, Int.emod_eq_of_lt (by omega) (by omega)]
  · rw [if_neg h, e, Int.emod_eq_of_lt (by omega) (by omega)]
/-- The duration of an activity. -/
def network_lasts.v (per : Int) (t : List Int) (x : S31) : Int := x.f3 + (rd t x.f2 - rd t x.f1 - x.f3) % per

theorem network_lasts.eq (per : Int) (l0_1 : List S46) (l0_2 : List S31) (t : List Int) (x : S31) (h1 : 2 ≤ per) (h2 : per ≤ 7200) (ht : ∀ y ∈ t, 0 ≤ y ∧ y ≤ per - 1) (ha : 0 ≤ x.f1 ∧ x.f1 < t.length) (hb : 0 ≤ x.f2 ∧ x.f2 < t.length) (hm : -65536 ≤ x.f3 ∧ x.f3 ≤ 65536) :
    network_lasts.f per l0_1 l0_2 t x.f0 x.f1 x.f2 x.f3 x.f4 x.f5 = some (network_lasts.v per t x) := by
  have hr : ∀ i : Int, 0 ≤ i → i < t.length → 0 ≤ rd t i ∧ rd t i ≤ per - 1 := fun i h0 h1 => by
    unfold rd
    have hl : i.toNat < t.length := by omega
    rw [List.getD_eq_getElem?_getD, List.getElem?_eq_getElem hl]
    exact ht _ (List.getElem_mem hl)
  have ra := hr x.f1 ha.1 ha.2
  have rb := hr x.f2 hb.1 hb.2
  unfold network_lasts.f
  rw [if_pos ha.1, if_pos ha.2, if_pos hb.1, if_pos hb.2]
  unfold network_Lasts.f network_lasts.v
  have e1 : wrap64 (wrap64 (rd t x.f2 - rd t x.f1) - x.f3) = rd t x.f2 - rd t x.f1 - x.f3 := by unfold wrap64; omega
  rw [e1, arith_Mod.eq _ _ (by omega) (by omega)]
  simp only [Option.bind_some]
  have p1 := Int.emod_nonneg (rd t x.f2 - rd t x.f1 - x.f3) (show per ≠ 0 by omega)
  have p2 := Int.emod_lt_of_pos (rd t x.f2 - rd t x.f1 - x.f3) (show 0 < per by omega)
  have e2 : wrap64 (x.f3 + (rd t x.f2 - rd t x.f1 - x.f3) % per) = x.f3 + (rd t x.f2 - rd t x.f1 - x.f3) % per := by unfold wrap64; omega
  rw [e2]
/-- What Good says. -/
structure network_Good.Is (per : Int) (l0_1 : List S46) (l0_2 : List S31) (t : List Int) : Prop where
  p1 : 2 ≤ per
  p2 : per ≤ 7200
  le : l0_1.length ≤ 48
  la : l0_2.length ≤ 512
  lt : t.length = l0_1.length
  ts : ∀ y ∈ t, 0 ≤ y ∧ y ≤ per - 1
  ac : ∀ x ∈ l0_2, (0 ≤ x.f1 ∧ x.f1 < t.length) ∧ (0 ≤ x.f2 ∧ x.f2 < t.length) ∧ x.f1 ≠ x.f2 ∧ -65536 ≤ x.f3 ∧ x.f3 ≤ x.f4 ∧ x.f4 ≤ 65536 ∧ x.f4 - x.f3 < per ∧ 0 ≤ x.f5 ∧ x.f5 ≤ 1048576
theorem network_Check.good (per last : Int) (x : S31) (h : network_Check.bad per last x = false) : (0 ≤ x.f1 ∧ x.f1 ≤ last) ∧ (0 ≤ x.f2 ∧ x.f2 ≤ last) ∧ x.f1 ≠ x.f2 ∧ -65536 ≤ x.f3 ∧ x.f3 ≤ x.f4 ∧ x.f4 ≤ 65536 ∧ x.f4 - x.f3 < per ∧ 0 ≤ x.f5 ∧ x.f5 ≤ 1048576 := by
  unfold network_Check.bad at h
  simp only [Bool.or_eq_false_iff, Bool.not_eq_false', Bool.and_eq_true, decide_eq_true_eq, decide_eq_false_iff_not, beq_eq_false_iff_ne, ne_eq] at h
  obtain ⟨h1, h2, h3, h4, h5, h6, h7, h8⟩ := h
  have e : wrap64 (x.f4 - x.f3) = x.f4 - x.f3 := by unfold wrap64; omega
  rw [e] at h7
  exact ⟨h1, h2, h3, by omega, by omega, by omega, by omega, h8.1, h8.2⟩
theorem network_Good.is {per : Int} {l0_1 : List S46} {l0_2 : List S31} {t : List Int} (h : network_Good.b per l0_1 l0_2 t = true) : network_Good.Is per l0_1 l0_2 t := by
  unfold network_Good.b network_Check.b at h
  simp only [Bool.and_eq_true, decide_eq_true_eq, Bool.not_eq_true', List.any_eq_false, Bool.not_eq_false'] at h
  obtain ⟨⟨⟨⟨⟨⟨h1, h2⟩, h3⟩, h4⟩, h5⟩, h6⟩, h7⟩ := h
  refine ⟨h1, h2, h3, h4, h6, fun y hy => ?_, fun x hx => ?_⟩
  · have := h7 y hy
    simpa using this
  · have := network_Check.good per _ x (by simpa using h5 x hx)
    obtain ⟨a, b, c⟩ := this
    exact ⟨⟨a.1, by omega⟩, ⟨b.1, by omega⟩, c⟩
set_option maxHeartbeats 8000000 in
set_option maxRecDepth 100000 in
theorem network_First.closure (per : Int) (A0_1 : Option Addr) (c0_1 : Nat) (l0_1 : List S46) (A0_2 : Option Addr) (c0_2 : Nat) (l0_2 : List S31) (A1 : Option Addr) (c1 : Nat) (t : List Int) (x : S31) (g2 g3 : Nat) (w W : World) (hb : Below w.heap.size w W) (hg2 : g2 < w.heap.size) (hg3 : g3 < w.heap.size)
    (hr0_1 : Kd.C k46 w A0_1 l0_1.length l0_1) (hc0_1 : l0_1.length ≤ c0_1) (hr0_2 : Kd.C k31 w A0_2 l0_2.length l0_2) (hc0_2 : l0_2.length ≤ c0_2) (hr1 : Kd.C (Kd.int .i64) w A1 t.length t) (hc1 : t.length ≤ c1)
    (hn0 : w.cell? ⟨g2, 0, none⟩ = some (.int .i64 per)) (hn1 : w.cell? ⟨g2, 1, none⟩ = some (.slice A0_1 l0_1.length c0_1)) (hn2 : w.cell? ⟨g2, 2, none⟩ = some (.slice A0_2 l0_2.length c0_2)) (ht : w.cell? ⟨g3, 0, none⟩ = some (.slice A1 t.length c1)) (v : Int) (hv : network_lasts.f per l0_1 l0_2 t x.f0 x.f1 x.f2 x.f3 x.f4 x.f5 = some v) :
    Calls Try.prog 39 #[.agg #[.int .i64 x.f0, .int .i64 x.f1, .int .i64 x.f2, .int .i64 x.f3, .int .i64 x.f4, .int .i64 x.f5], .pointer (some ⟨g2, 0, none⟩), .pointer (some ⟨g3, 0, none⟩)] W fun e w' => e = .returned (.bool (decide (x.f4 < v))) ∧ Below w.heap.size w w' := by
  replace hn0 := (hb.cell (p := ⟨g2, 0, none⟩) hg2).trans hn0
  replace hn1 := (hb.cell (p := ⟨g2, 1, none⟩) hg2).trans hn1
  replace hn2 := (hb.cell (p := ⟨g2, 2, none⟩) hg2).trans hn2
  replace ht := (hb.cell (p := ⟨g3, 0, none⟩) hg3).trans ht
  have hs := hb.size
  have ha2 : g2 < W.heap.size := Nat.lt_of_lt_of_le hg2 hs
  have ha3 : g3 < W.heap.size := Nat.lt_of_lt_of_le hg3 hs
  have hun := Try.underlying26
  have hua := Try.underlying31
  have K := Aside0.mk (fun (W' : World) (hW : Below w.heap.size w W') => network_lasts.calls per A0_1 c0_1 l0_1 A0_2 c0_2 l0_2 A1 c1 t x.f0 x.f1 x.f2 x.f3 x.f4 x.f5 v W' (Kd.C_below hr0_1 hW) hc0_1 (Kd.C_below hr0_2 hW) hc0_2 (Kd.C_below hr1 hW) hc1 hv)
  have HB := Aside0.mk hb
  have HS := Aside0.mk hs
  clear hv hr0_1 hr0_2 hr1 hc0_1 hc0_2 hc1 hb hg2 hg3 hs
  have hW1 : Below w.heap.size w (W.alloc (.cells #[.int .i64 x.f0, .int .i64 x.f1, .int .i64 x.f2, .int .i64 x.f3, .int .i64 x.f4, .int .i64 x.f5] 31)) := HB.out.alloc HS.out _
  have c0 : (W.alloc (.cells #[.int .i64 x.f0, .int .i64 x.f1, .int .i64 x.f2, .int .i64 x.f3, .int .i64 x.f4, .int .i64 x.f5] 31)).cell? ⟨g2, 0, none⟩ = some (.int .i64 per) := by go_simp
  have c1_ : (W.alloc (.cells #[.int .i64 x.f0, .int .i64 x.f1, .int .i64 x.f2, .int .i64 x.f3, .int .i64 x.f4, .int .i64 x.f5] 31)).cell? ⟨g2, 1, none⟩ = some (.slice A0_1 l0_1.length c0_1) := by go_simp
  have c2 : (W.alloc (.cells #[.int .i64 x.f0, .int .i64 x.f1, .int .i64 x.f2, .int .i64 x.f3, .int .i64 x.f4, .int .i64 x.f5] 31)).cell? ⟨g2, 2, none⟩ = some (.slice A0_2 l0_2.length c0_2) := by go_simp
  have c3 : (W.alloc (.cells #[.int .i64 x.f0, .int .i64 x.f1, .int .i64 x.f2, .int .i64 x.f3, .int .i64 x.f4, .int .i64 x.f5] 31)).cell? ⟨g3, 0, none⟩ = some (.slice A1 t.length c1) := by go_simp
  have hsz : (W.alloc (.cells #[.int .i64 x.f0, .int .i64 x.f1, .int .i64 x.f2, .int .i64 x.f3, .int .i64 x.f4, .int .i64 x.f5] 31)).heap.size = W.heap.size + 1 := by simp
  have d : ∀ i u, (#[Value.int .i64 x.f0, .int .i64 x.f1, .int .i64 x.f2, .int .i64 x.f3, .int .i64 x.f4, .int .i64 x.f5])[i]? = some u → (W.alloc (.cells #[.int .i64 x.f0, .int .i64 x.f1, .int .i64 x.f2, .int .i64 x.f3, .int .i64 x.f4, .int .i64 x.f5] 31)).cell? ⟨W.heap.size, i, none⟩ = some u := fun i u h => (blk_cell (blk_new W _) i).trans h
  go_enter Try.func39, Try.ntmps39
  go_wp2
  have D0 := d 0 _ rfl
  have D1 := d 1 _ rfl
  have D2 := d 2 _ rfl
  have D3 := d 3 _ rfl
  have D4 := d 4 _ rfl
  have D5 := d 5 _ rfl
  clear d
  generalize W.alloc (.cells #[.int .i64 x.f0, .int .i64 x.f1, .int .i64 x.f2, .int .i64 x.f3, .int .i64 x.f4, .int .i64 x.f5] 31) = W1 at *
  have SB : ∀ w' : World, Below W1.heap.size W1 w' → w'.cell? ⟨g2, 0, none⟩ = some (.int .i64 per) ∧ w'.cell? ⟨g2, 1, none⟩ = some (.slice A0_1 l0_1.length c0_1) ∧ w'.cell? ⟨g2, 2, none⟩ = some (.slice A0_2 l0_2.length c0_2) ∧ w'.cell? ⟨g3, 0, none⟩ = some (.slice A1 t.length c1) ∧
      w'.cell? ⟨W.heap.size, 0, none⟩ = some (.int .i64 x.f0) ∧ w'.cell? ⟨W.heap.size, 1, none⟩ = some (.int .i64 x.f1) ∧ w'.cell? ⟨W.heap.size, 2, none⟩ = some (.int .i64 x.f2) ∧ w'.cell? ⟨W.heap.size, 3, none⟩ = some (.int .i64 x.f3) ∧ w'.cell? ⟨W.heap.size, 4, none⟩ = some (.int .i64 x.f4) ∧ w'.cell? ⟨W.heap.size, 5, none⟩ = some (.int .i64 x.f5) ∧ Below W1.heap.size W1 w' := fun w' h =>
    ⟨pw_cell_below h c0, pw_cell_below h c1_, pw_cell_below h c2, pw_cell_below h c3, pw_cell_below h D0, pw_cell_below h D1, pw_cell_below h D2, pw_cell_below h D3, pw_cell_below h D4, pw_cell_below h D5, h⟩
  have K2 : ∀ W' : World, Below W1.heap.size W1 W' → Calls Try.prog 30 #[.agg #[.int .i64 per, .slice A0_1 l0_1.length c0_1, .slice A0_2 l0_2.length c0_2], .slice A1 t.length c1, .agg #[.int .i64 x.f0, .int .i64 x.f1, .int .i64 x.f2, .int .i64 x.f3, .int .i64 x.f4, .int .i64 x.f5]] W' fun e w' => e = .returned (.int .i64 v) ∧ Below W1.heap.size W1 w' := fun W' h =>
    (K.out W' (hW1.trans (h.mono hW1.size))).mono fun e w' ⟨he, hb⟩ => ⟨he, h.trans (hb.mono h.size)⟩
  have SBA := Aside0.mk SB
  have KA := Aside0.mk K2
  have HW1 := Aside0.mk hW1
  clear SB K2 K hW1 D0 D1 D2 D3 D4 D5 c0 c1_ c2 c3 hn0 hn1 hn2 ht HB
  go_region_held3 (fun w' => w'.cell? ⟨g2, 0, none⟩ = some (.int .i64 per) ∧ w'.cell? ⟨g2, 1, none⟩ = some (.slice A0_1 l0_1.length c0_1) ∧ w'.cell? ⟨g2, 2, none⟩ = some (.slice A0_2 l0_2.length c0_2) ∧ w'.cell? ⟨g3, 0, none⟩ = some (.slice A1 t.length c1) ∧
      w'.cell? ⟨W.heap.size, 0, none⟩ = some (.int .i64 x.f0) ∧ w'.cell? ⟨W.heap.size, 1, none⟩ = some (.int .i64 x.f1) ∧ w'.cell? ⟨W.heap.size, 2, none⟩ = some (.int .i64 x.f2) ∧ w'.cell? ⟨W.heap.size, 3, none⟩ = some (.int .i64 x.f3) ∧ w'.cell? ⟨W.heap.size, 4, none⟩ = some (.int .i64 x.f4) ∧ w'.cell? ⟨W.heap.size, 5, none⟩ = some (.int .i64 x.f5) ∧ Below W1.heap.size W1 w')
    (first | exact SBA.out _ (by assumption) | exact SBA.out _ (below_drew (Below.refl _ _)))
    (first | (go_at_call 30; refine (KA.out _ ?_).mono ?_; (exact below_drew (Below.refl _ _)); rintro e w' ⟨rfl, hb⟩))
  all_goals go_wp2
  go_ret
  exact ⟨rfl, HW1.out.trans (hb.mono HW1.out.size)⟩
def network_First.b (a0_0 : Int) (l0_1 : List S46) (l0_2 : List S31) (l1 : List Int) : Int × Bool :=
  if network_Good.b a0_0 l0_1 l0_2 l1 = true then (mx (act_ix (fun x => decide (x.f4 < network_lasts.v a0_0 l1 x)) l0_2) 0, decide (0 ≤ act_ix (fun x => decide (x.f4 < network_lasts.v a0_0 l1 x)) l0_2)) else (0, false)
def network_First.f (a0_0 : Int) (l0_1 : List S46) (l0_2 : List S31) (l1 : List Int) : Option (Int × Bool) := some (network_First.b a0_0 l0_1 l0_2 l1)
set_option maxHeartbeats 8000000 in
set_option maxRecDepth 100000 in
theorem network_First.calls (a0_0 : Int) (A0_1 : Option Addr) (c0_1 : Nat) (l0_1 : List S46) (A0_2 : Option Addr) (c0_2 : Nat) (l0_2 : List S31) (A1 : Option Addr) (c1 : Nat) (l1 : List Int) (r1 : Int) (r2 : Bool) (w : World) (hr0_1 : Kd.C k46 w A0_1 l0_1.length l0_1) (hc0_1 : l0_1.length ≤ c0_1) (hr0_2 : Kd.C k31 w A0_2 l0_2.length l0_2) (hc0_2 : l0_2.length ≤ c0_2) (hr1 : Kd.C (Kd.int .i64) w A1 l1.length l1) (hc1 : l1.length ≤ c1) (h : network_First.f a0_0 l0_1 l0_2 l1 = some (r1, r2)) :
    Calls Try.prog 24 #[.agg #[.int .i64 a0_0, .slice A0_1 l0_1.length c0_1, .slice A0_2 l0_2.length c0_2], .slice A1 l1.length c1] w fun e w' => e = .returned (.tuple #[.int .i64 r1, .bool r2]) ∧ Below w.heap.size w w' := by
  have hun := Try.underlying26
  have hmf : ∀ (fn : Fn) (first cap : Array Value) (w : World), (Instr.makeFunc fn first cap).run Try.prog w = .ok (.func fn first cap) w := fun _ _ _ _ => rfl
  have eg : ∀ args w, (callFunc 39 args).run Try.prog w = .ok (.enter 39 args) w := enters_of Try.func39 (by kernel_rfl) rfl
  have h' := Option.some.inj h
  clear h
  have hgd : ∀ (W : World), Below w.heap.size w W → Calls Try.prog 29 #[.agg #[.int .i64 a0_0, .slice A0_1 l0_1.length c0_1, .slice A0_2 l0_2.length c0_2], .slice A1 l1.length c1] W fun e w' => e = .returned (.bool (network_Good.b a0_0 l0_1 l0_2 l1)) ∧ Below W.heap.size W w' :=
    fun W hW => network_Good.calls a0_0 A0_1 c0_1 l0_1 A0_2 c0_2 l0_2 A1 c1 l1 _ W (Kd.C_below hr0_1 hW) hc0_1 (Kd.C_below hr0_2 hW) hc0_2 (Kd.C_below hr1 hW) hc1 rfl
  have HB := Aside0.mk (Below.refl w.heap.size w)
  unfold network_First.b at h'
  have his := fun h => network_Good.is (per := a0_0) (l0_1 := l0_1) (l0_2 := l0_2) (t := l1) h
  generalize network_Good.b a0_0 l0_1 l0_2 l1 = b at hgd h' his
  have KC := Aside0.mk hgd
  clear hgd
  cases b
  · rw [if_neg (by simp)] at h'
    obtain ⟨rfl, rfl⟩ := Prod.mk.inj h'
    clear h' his
    go_enter Try.func24, Try.ntmps24
    go_wp2_with (go_at_call 29; refine (KC.out _ (by repeat (first | (with_reducible first | exact HB.out | apply below_alloc | apply pw_below_drewN | apply below_drew1) | exact HB.out))).mono ?_; rintro e w' ⟨rfl, hb⟩)
    go_ret2
    exact ⟨rfl, (((Below.refl _ _).alloc (Nat.le_refl _) _).alloc (by simp) _).trans (hb.mono (by simp; omega))⟩
  · rw [if_pos rfl] at h'
    have IS := his rfl
    clear his
    have key : ∀ (W W2 : World) (g2 g3 : Nat), Below w.heap.size w W → g2 < W.heap.size → g3 < W.heap.size → W.cell? ⟨g2, 0, none⟩ = some (.int .i64 a0_0) → W.cell? ⟨g2, 1, none⟩ = some (.slice A0_1 l0_1.length c0_1) → W.cell? ⟨g2, 2, none⟩ = some (.slice A0_2 l0_2.length c0_2) → W.cell? ⟨g3, 0, none⟩ = some (.slice A1 l1.length c1) → Below W.heap.size W W2 →
        Calls Try.prog 38 #[.slice A0_2 l0_2.length c0_2, .func (.func 39) #[] #[.pointer (some ⟨g2, 0, none⟩), .pointer (some ⟨g3, 0, none⟩)]] W2 fun e w' => e = .returned (.int .i64 (act_ix (fun x => decide (x.f4 < network_lasts.v a0_0 l1 x)) l0_2)) ∧ Below w.heap.size w w' := by
      intro W W2 g2 g3 hW hg2 hg3 hn0 hn1 hn2 ht hW2
      refine (act_IndexFunc (fun x => decide (x.f4 < network_lasts.v a0_0 l1 x)) 39 #[.pointer (some ⟨g2, 0, none⟩), .pointer (some ⟨g3, 0, none⟩)] A0_2 c0_2 l0_2 W W2 hW2 eg (fun x V hx hV => ?_) (Kd.C_below hr0_2 hW)).mono ?_
      · obtain ⟨a, b, c, d, e, f, _⟩ := IS.ac x hx
        exact network_First.closure a0_0 A0_1 c0_1 l0_1 A0_2 c0_2 l0_2 A1 c1 l1 x g2 g3 W V hV hg2 hg3 (Kd.C_below hr0_1 hW) hc0_1 (Kd.C_below hr0_2 hW) hc0_2 (Kd.C_below hr1 hW) hc1 hn0 hn1 hn2 ht _ (network_lasts.eq a0_0 l0_1 l0_2 l1 x IS.p1 IS.p2 IS.ts a b ⟨d, by omega⟩)
      · rintro e w' ⟨rfl, hb⟩
        exact ⟨rfl, hW.trans (hb.mono hW.size)⟩
    have K := Aside0.mk key
    clear key IS
    generalize act_ix (fun x => decide (x.f4 < network_lasts.v a0_0 l1 x)) l0_2 = ix at K h'
    obtain ⟨rfl, rfl⟩ := Prod.mk.inj h'
    clear h'
    by_cases hix : ix < 0
    · have e1 : mx ix 0 = 0 := by unfold mx; omega
      have e2 : decide (ix < 0) = true := decide_eq_true hix
      rw [e1]
      clear e1
      go_enter Try.func24, Try.ntmps24
      go_wp2_with (go_at_call 29; refine (KC.out _ (by repeat (first | (with_reducible first | exact HB.out | apply below_alloc | apply pw_below_drewN | apply below_drew1) | exact HB.out))).mono ?_; rintro e w' ⟨rfl, hb⟩; have hc1_ := bcell2_ (A := w.heap.size + 2) hb (by simp))
      refine (K.out _ _ _ _ (by repeat (first | (with_reducible first | exact HB.out | apply below_alloc | apply pw_below_drewN | apply below_drew1) | exact HB.out)) (by first | (simp; done) | (simp; omega)) (by first | (simp; done) | (simp; omega)) (by first | (go_simp; done) | (simp; done)) (by first | (go_simp; done) | (simp; done)) (by first | (go_simp; done) | (simp; done)) (by first | (go_simp; done) | (simp; done)) hb).mono ?_
      rintro e w' ⟨rfl, hb2⟩
      go_wp2
      go_ret2
      exact ⟨rfl, hb2⟩
    · have e1 : mx ix 0 = ix := by unfold mx; omega
      have e2 : decide (ix < 0) = false := decide_eq_false hix
      rw [e1, show decide (0 ≤ ix) = true from decide_eq_true (by omega)]
      clear e1
      go_enter Try.func24, Try.ntmps24
      go_wp2_with (go_at_call 29; refine (KC.out _ (by repeat (first | (with_reducible first | exact HB.out | apply below_alloc | apply pw_below_drewN | apply below_drew1) | exact HB.out))).mono ?_; rintro e w' ⟨rfl, hb⟩; have hc1_ := bcell2_ (A := w.heap.size + 2) hb (by simp))
      refine (K.out _ _ _ _ (by repeat (first | (with_reducible first | exact HB.out | apply below_alloc | apply pw_below_drewN | apply below_drew1) | exact HB.out)) (by first | (simp; done) | (simp; omega)) (by first | (simp; done) | (simp; omega)) (by first | (go_simp; done) | (simp; done)) (by first | (go_simp; done) | (simp; done)) (by first | (go_simp; done) | (simp; done)) (by first | (go_simp; done) | (simp; done)) hb).mono ?_
      rintro e w' ⟨rfl, hb2⟩
      go_wp2
      go_ret2
      exact ⟨rfl, hb2⟩


end Go.Proofs.Ytapnkefhihgbbaa.PAll
