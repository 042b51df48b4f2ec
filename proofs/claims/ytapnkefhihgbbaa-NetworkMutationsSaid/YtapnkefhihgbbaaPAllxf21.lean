/- What calls of the Go functions below do, each under the premises that its theorem states. Laid by a program of the claimant, which drives the kit's print; some texts are written by hand. -/
import Derived.Test.YtapnkefhihgbbaaPAllx0
import Derived.Test.YtapnkefhihgbbaaPAllxf13
import Derived.Test.YtapnkefhihgbbaaPAllxf15
import Derived.Test.YtapnkefhihgbbaaPAllxf18
import Derived.Test.YtapnkefhihgbbaaPAllxf25
import Derived.Test.YtapnkefhihgbbaaPAllxf31
import Derived.Test.YtapnkefhihgbbaaPAllxf32
import Derived.Test.YtapnkefhihgbbaaPAllxf33
import Derived.Test.YtapnkefhihgbbaaPAllxf35
import Derived.Test.YtapnkefhihgbbaaPAllxf45
namespace Go.Proofs.Ytapnkefhihgbbaa.PAll
open Go.RowKit Go.Proofs.YtapnkefhihgbbaaW.PrintWords Go.Proofs.YtapnkefhihgbbaaW.PrintLast Go.Proofs.YtapnkefhihgbbaaW.PrintMore
attribute [local go_sem] max2_int min2_int max_two min_two max_three min_three max_four min_four   -- for this text's walks alone
set_option linter.unusedVariables false
set_option linter.unusedSimpArgs false

/-! ### railplanlaw11_agrees: function 21 -/
def railplanlaw11_agrees.f (p : Int) (ev : List S46) (ac : List S31) (t : List Int) (a e0 e1 e2 : Int) : Option Bool := some true
/-- All functions and their references answer alike. -/
structure Agree (p : Int) (ev : List S46) (ac : List S31) (t : List Int) (a e0 e1 e2 : Int) : Prop where
  ex : ∃ (k : Nat) (x : Int) (is_ : Bool) (c f : Int) (ck gd : Bool) (du : Int) (fe : Bool) (ix : Int), network_First.f p ev ac t = some (x, is_) ∧ railplanref11_First.f k p ev ac t = some (x, is_) ∧ network_Cost.f k p ev ac t = some (c, f) ∧ railplanref11_Cost.f k p ev ac t = some (c, f) ∧ network_Check.f p ev ac = some ck ∧ railplanref11_Check.f k p ev ac = some ck ∧ network_Good.f p ev ac t = some gd ∧ railplanref11_Good.f k p ev ac t = some gd ∧ network_Duration.f p ev ac t a = some du ∧ railplanref11_Duration.f k p ev ac t a = some du ∧ network_Feasible.f p ev ac t = some fe ∧ railplanref11_Feasible.f k p ev ac t = some fe ∧ network_Index.f k p ev ac e0 e1 e2 = some ix ∧ railplanref11_Index.f k p ev ac e0 e1 e2 = some ix
set_option maxHeartbeats 8000000 in
set_option maxRecDepth 100000 in
theorem railplanlaw11_agrees.true_ (p : Int) (A1 : Option Addr) (c1 : Nat) (ev : List S46) (A2 : Option Addr) (c2 : Nat) (ac : List S31) (A3 : Option Addr) (c3 : Nat) (t : List Int) (a e0 e1 e2 : Int) (w : World) (r1 : Kd.C k46 w A1 ev.length ev) (h1 : ev.length ≤ c1) (r2 : Kd.C k31 w A2 ac.length ac) (h2 : ac.length ≤ c2) (r3 : Kd.C (Kd.int .i64) w A3 t.length t) (h3 : t.length ≤ c3) (hA : Agree p ev ac t a e0 e1 e2) :
    Calls Try.prog 21 #[.agg #[.int .i64 p, .slice A1 ev.length c1, .slice A2 ac.length c2], .slice A3 t.length c3, .int .i64 a, .agg #[.int .i64 e0, .int .i64 e1, .int .i64 e2]] w fun e w' => e = .returned (.bool true) ∧ Below w.heap.size w w' := by
  obtain ⟨k, x, is_, c, f, ck, gd, du, fe, ix, q0, q1, q2, q3, q4, q5, q6, q7, q8, q9, q10, q11, q12, q13⟩ := hA.ex
  clear hA
  have hun := Try.underlying26
  have hue := Try.underlying46
  have hw1 : Below w.heap.size w ((w.alloc (.cells #[.int .i64 p, .slice A1 ev.length c1, .slice A2 ac.length c2] 26)).alloc (.cells #[.int .i64 e0, .int .i64 e1, .int .i64 e2] 46)) := ((Below.refl _ _).alloc (Nat.le_refl _) _).alloc (by simp) _
  have n0 : ((w.alloc (.cells #[.int .i64 p, .slice A1 ev.length c1, .slice A2 ac.length c2] 26)).alloc (.cells #[.int .i64 e0, .int .i64 e1, .int .i64 e2] 46)).cell? ⟨w.heap.size, 0, none⟩ = some (.int .i64 p) := (blk_cell (blk_alloc (blk_new w _) _) 0).trans rfl
  have n1 : ((w.alloc (.cells #[.int .i64 p, .slice A1 ev.length c1, .slice A2 ac.length c2] 26)).alloc (.cells #[.int .i64 e0, .int .i64 e1, .int .i64 e2] 46)).cell? ⟨w.heap.size, 1, none⟩ = some (.slice A1 ev.length c1) := (blk_cell (blk_alloc (blk_new w _) _) 1).trans rfl
  have n2 : ((w.alloc (.cells #[.int .i64 p, .slice A1 ev.length c1, .slice A2 ac.length c2] 26)).alloc (.cells #[.int .i64 e0, .int .i64 e1, .int .i64 e2] 46)).cell? ⟨w.heap.size, 2, none⟩ = some (.slice A2 ac.length c2) := (blk_cell (blk_alloc (blk_new w _) _) 2).trans rfl
  have m0 : ((w.alloc (.cells #[.int .i64 p, .slice A1 ev.length c1, .slice A2 ac.length c2] 26)).alloc (.cells #[.int .i64 e0, .int .i64 e1, .int .i64 e2] 46)).cell? ⟨w.heap.size + 1, 0, none⟩ = some (.int .i64 e0) := by
    have h := blk_cell (blk_new (w.alloc (.cells #[.int .i64 p, .slice A1 ev.length c1, .slice A2 ac.length c2] 26)) (.cells #[.int .i64 e0, .int .i64 e1, .int .i64 e2] 46)) 0
    rw [show (w.alloc (.cells #[.int .i64 p, .slice A1 ev.length c1, .slice A2 ac.length c2] 26)).heap.size = w.heap.size + 1 from by simp] at h
    exact h.trans rfl
  have m1 : ((w.alloc (.cells #[.int .i64 p, .slice A1 ev.length c1, .slice A2 ac.length c2] 26)).alloc (.cells #[.int .i64 e0, .int .i64 e1, .int .i64 e2] 46)).cell? ⟨w.heap.size + 1, 1, none⟩ = some (.int .i64 e1) := by
    have h := blk_cell (blk_new (w.alloc (.cells #[.int .i64 p, .slice A1 ev.length c1, .slice A2 ac.length c2] 26)) (.cells #[.int .i64 e0, .int .i64 e1, .int .i64 e2] 46)) 1
    rw [show (w.alloc (.cells #[.int .i64 p, .slice A1 ev.length c1, .slice A2 ac.length c2] 26)).heap.size = w.heap.size + 1 from by simp] at h
    exact h.trans rfl
  have m2 : ((w.alloc (.cells #[.int .i64 p, .slice A1 ev.length c1, .slice A2 ac.length c2] 26)).alloc (.cells #[.int .i64 e0, .int .i64 e1, .int .i64 e2] 46)).cell? ⟨w.heap.size + 1, 2, none⟩ = some (.int .i64 e2) := by
    have h := blk_cell (blk_new (w.alloc (.cells #[.int .i64 p, .slice A1 ev.length c1, .slice A2 ac.length c2] 26)) (.cells #[.int .i64 e0, .int .i64 e1, .int .i64 e2] 46)) 2
    rw [show (w.alloc (.cells #[.int .i64 p, .slice A1 ev.length c1, .slice A2 ac.length c2] 26)).heap.size = w.heap.size + 1 from by simp] at h
    exact h.trans rfl
  go_enter Try.func21, Try.ntmps21
  go_wp2_with fail
  generalize ((w.alloc (.cells #[.int .i64 p, .slice A1 ev.length c1, .slice A2 ac.length c2] 26)).alloc (.cells #[.int .i64 e0, .int .i64 e1, .int .i64 e2] 46)) = w0 at *
  have SB : ∀ w' : World, Below w0.heap.size w0 w' → Below w0.heap.size w0 w' ∧ w'.cell? ⟨w.heap.size, 0, none⟩ = some (.int .i64 p) ∧ w'.cell? ⟨w.heap.size, 1, none⟩ = some (.slice A1 ev.length c1) ∧ w'.cell? ⟨w.heap.size, 2, none⟩ = some (.slice A2 ac.length c2) ∧ w'.cell? ⟨w.heap.size + 1, 0, none⟩ = some (.int .i64 e0) ∧ w'.cell? ⟨w.heap.size + 1, 1, none⟩ = some (.int .i64 e1) ∧ w'.cell? ⟨w.heap.size + 1, 2, none⟩ = some (.int .i64 e2) := fun w' h => ⟨h, pw_cell_below h n0, pw_cell_below h n1, pw_cell_below h n2, pw_cell_below h m0, pw_cell_below h m1, pw_cell_below h m2⟩
  have K0 := Aside0.mk (fun (W : World) (h : Below w0.heap.size w0 W) => show Calls Try.prog 24 #[.agg #[.int .i64 p, .slice A1 ev.length c1, .slice A2 ac.length c2], .slice A3 t.length c3] W fun e w' => e = .returned (.tuple #[.int .i64 x, .bool is_]) ∧ Below w0.heap.size w0 w' from (network_First.calls p A1 c1 ev A2 c2 ac A3 c3 t x is_ W (Kd.C_below (Kd.C_below r1 hw1) h) h1 (Kd.C_below (Kd.C_below r2 hw1) h) h2 (Kd.C_below (Kd.C_below r3 hw1) h) h3 q0).mono fun e w' hh => ⟨hh.1, h.trans (hh.2.mono h.size)⟩)
  have K1 := Aside0.mk (fun (W : World) (h : Below w0.heap.size w0 W) => show Calls Try.prog 32 #[.agg #[.int .i64 p, .slice A1 ev.length c1, .slice A2 ac.length c2], .slice A3 t.length c3] W fun e w' => e = .returned (.tuple #[.int .i64 x, .bool is_]) ∧ Below w0.heap.size w0 w' from (railplanref11_First.calls k p A1 c1 ev A2 c2 ac A3 c3 t x is_ W (Kd.C_below (Kd.C_below r1 hw1) h) h1 (Kd.C_below (Kd.C_below r2 hw1) h) h2 (Kd.C_below (Kd.C_below r3 hw1) h) h3 q1).mono fun e w' hh => ⟨hh.1, h.trans (hh.2.mono h.size)⟩)
  have K2 := Aside0.mk (fun (W : World) (h : Below w0.heap.size w0 W) => show Calls Try.prog 18 #[.agg #[.int .i64 p, .slice A1 ev.length c1, .slice A2 ac.length c2], .slice A3 t.length c3] W fun e w' => e = .returned (.tuple #[.int .i64 c, .int .i64 f]) ∧ Below w0.heap.size w0 w' from (network_Cost.calls k p A1 c1 ev A2 c2 ac A3 c3 t c f W (Kd.C_below (Kd.C_below r1 hw1) h) h1 (Kd.C_below (Kd.C_below r2 hw1) h) h2 (Kd.C_below (Kd.C_below r3 hw1) h) h3 q2).mono fun e w' hh => ⟨hh.1, h.trans (hh.2.mono h.size)⟩)
  have K3 := Aside0.mk (fun (W : World) (h : Below w0.heap.size w0 W) => show Calls Try.prog 33 #[.agg #[.int .i64 p, .slice A1 ev.length c1, .slice A2 ac.length c2], .slice A3 t.length c3] W fun e w' => e = .returned (.tuple #[.int .i64 c, .int .i64 f]) ∧ Below w0.heap.size w0 w' from (railplanref11_Cost.calls k p A1 c1 ev A2 c2 ac A3 c3 t c f W (Kd.C_below (Kd.C_below r1 hw1) h) h1 (Kd.C_below (Kd.C_below r2 hw1) h) h2 (Kd.C_below (Kd.C_below r3 hw1) h) h3 q3).mono fun e w' hh => ⟨hh.1, h.trans (hh.2.mono h.size)⟩)
  have K4 := Aside0.mk (fun (W : World) (h : Below w0.heap.size w0 W) => show Calls Try.prog 12 #[.agg #[.int .i64 p, .slice A1 ev.length c1, .slice A2 ac.length c2]] W fun e w' => e = .returned (.bool ck) ∧ Below w0.heap.size w0 w' from (network_Check.calls p A1 c1 ev A2 c2 ac ck W (Kd.C_below (Kd.C_below r1 hw1) h) h1 (Kd.C_below (Kd.C_below r2 hw1) h) h2 q4).mono fun e w' hh => ⟨hh.1, h.trans (hh.2.mono h.size)⟩)
  have K5 := Aside0.mk (fun (W : World) (h : Below w0.heap.size w0 W) => show Calls Try.prog 13 #[.agg #[.int .i64 p, .slice A1 ev.length c1, .slice A2 ac.length c2]] W fun e w' => e = .returned (.bool ck) ∧ Below w0.heap.size w0 w' from (railplanref11_Check.calls k p A1 c1 ev A2 c2 ac ck W (Kd.C_below (Kd.C_below r1 hw1) h) h1 (Kd.C_below (Kd.C_below r2 hw1) h) h2 q5).mono fun e w' hh => ⟨hh.1, h.trans (hh.2.mono h.size)⟩)
  have K6 := Aside0.mk (fun (W : World) (h : Below w0.heap.size w0 W) => show Calls Try.prog 29 #[.agg #[.int .i64 p, .slice A1 ev.length c1, .slice A2 ac.length c2], .slice A3 t.length c3] W fun e w' => e = .returned (.bool gd) ∧ Below w0.heap.size w0 w' from (network_Good.calls p A1 c1 ev A2 c2 ac A3 c3 t gd W (Kd.C_below (Kd.C_below r1 hw1) h) h1 (Kd.C_below (Kd.C_below r2 hw1) h) h2 (Kd.C_below (Kd.C_below r3 hw1) h) h3 q6).mono fun e w' hh => ⟨hh.1, h.trans (hh.2.mono h.size)⟩)
  have K7 := Aside0.mk (fun (W : World) (h : Below w0.heap.size w0 W) => show Calls Try.prog 34 #[.agg #[.int .i64 p, .slice A1 ev.length c1, .slice A2 ac.length c2], .slice A3 t.length c3] W fun e w' => e = .returned (.bool gd) ∧ Below w0.heap.size w0 w' from (railplanref11_Good.calls k p A1 c1 ev A2 c2 ac A3 c3 t gd W (Kd.C_below (Kd.C_below r1 hw1) h) h1 (Kd.C_below (Kd.C_below r2 hw1) h) h2 (Kd.C_below (Kd.C_below r3 hw1) h) h3 q7).mono fun e w' hh => ⟨hh.1, h.trans (hh.2.mono h.size)⟩)
  have K8 := Aside0.mk (fun (W : World) (h : Below w0.heap.size w0 W) => show Calls Try.prog 15 #[.agg #[.int .i64 p, .slice A1 ev.length c1, .slice A2 ac.length c2], .slice A3 t.length c3, .int .i64 a] W fun e w' => e = .returned (.int .i64 du) ∧ Below w0.heap.size w0 w' from (network_Duration.calls p A1 c1 ev A2 c2 ac A3 c3 t a du W (Kd.C_below (Kd.C_below r1 hw1) h) h1 (Kd.C_below (Kd.C_below r2 hw1) h) h2 (Kd.C_below (Kd.C_below r3 hw1) h) h3 q8).mono fun e w' hh => ⟨hh.1, h.trans (hh.2.mono h.size)⟩)
  have K9 := Aside0.mk (fun (W : World) (h : Below w0.heap.size w0 W) => show Calls Try.prog 35 #[.agg #[.int .i64 p, .slice A1 ev.length c1, .slice A2 ac.length c2], .slice A3 t.length c3, .int .i64 a] W fun e w' => e = .returned (.int .i64 du) ∧ Below w0.heap.size w0 w' from (railplanref11_Duration.calls k p A1 c1 ev A2 c2 ac A3 c3 t a du W (Kd.C_below (Kd.C_below r1 hw1) h) h1 (Kd.C_below (Kd.C_below r2 hw1) h) h2 (Kd.C_below (Kd.C_below r3 hw1) h) h3 q9).mono fun e w' hh => ⟨hh.1, h.trans (hh.2.mono h.size)⟩)
  have K10 := Aside0.mk (fun (W : World) (h : Below w0.heap.size w0 W) => show Calls Try.prog 17 #[.agg #[.int .i64 p, .slice A1 ev.length c1, .slice A2 ac.length c2], .slice A3 t.length c3] W fun e w' => e = .returned (.bool fe) ∧ Below w0.heap.size w0 w' from (network_Feasible.calls p A1 c1 ev A2 c2 ac A3 c3 t fe W (Kd.C_below (Kd.C_below r1 hw1) h) h1 (Kd.C_below (Kd.C_below r2 hw1) h) h2 (Kd.C_below (Kd.C_below r3 hw1) h) h3 q10).mono fun e w' hh => ⟨hh.1, h.trans (hh.2.mono h.size)⟩)
  have K11 := Aside0.mk (fun (W : World) (h : Below w0.heap.size w0 W) => show Calls Try.prog 36 #[.agg #[.int .i64 p, .slice A1 ev.length c1, .slice A2 ac.length c2], .slice A3 t.length c3] W fun e w' => e = .returned (.bool fe) ∧ Below w0.heap.size w0 w' from (railplanref11_Feasible.calls k p A1 c1 ev A2 c2 ac A3 c3 t fe W (Kd.C_below (Kd.C_below r1 hw1) h) h1 (Kd.C_below (Kd.C_below r2 hw1) h) h2 (Kd.C_below (Kd.C_below r3 hw1) h) h3 q11).mono fun e w' hh => ⟨hh.1, h.trans (hh.2.mono h.size)⟩)
  have K12 := Aside0.mk (fun (W : World) (h : Below w0.heap.size w0 W) => show Calls Try.prog 20 #[.agg #[.int .i64 p, .slice A1 ev.length c1, .slice A2 ac.length c2], .agg #[.int .i64 e0, .int .i64 e1, .int .i64 e2]] W fun e w' => e = .returned (.int .i64 ix) ∧ Below w0.heap.size w0 w' from (network_Index.calls k p A1 c1 ev A2 c2 ac e0 e1 e2 ix W (Kd.C_below (Kd.C_below r1 hw1) h) h1 (Kd.C_below (Kd.C_below r2 hw1) h) h2 q12).mono fun e w' hh => ⟨hh.1, h.trans (hh.2.mono h.size)⟩)
  have K13 := Aside0.mk (fun (W : World) (h : Below w0.heap.size w0 W) => show Calls Try.prog 37 #[.agg #[.int .i64 p, .slice A1 ev.length c1, .slice A2 ac.length c2], .agg #[.int .i64 e0, .int .i64 e1, .int .i64 e2]] W fun e w' => e = .returned (.int .i64 ix) ∧ Below w0.heap.size w0 w' from (railplanref11_Index.calls k p A1 c1 ev A2 c2 ac e0 e1 e2 ix W (Kd.C_below (Kd.C_below r1 hw1) h) h1 (Kd.C_below (Kd.C_below r2 hw1) h) h2 q13).mono fun e w' hh => ⟨hh.1, h.trans (hh.2.mono h.size)⟩)
  have SBA := Aside0.mk SB
  have HW := Aside0.mk hw1
  clear SB hw1 r1 r2 r3 h1 h2 h3 q0 q1 q2 q3 q4 q5 q6 q7 q8 q9 q10 q11 q12 q13
  refine (K0.out _ (Below.refl _ _)).mono ?_
  rintro e w1 ⟨rfl, b1⟩
  obtain ⟨_, x0_0, x1_0, x2_0, _⟩ := SBA.out _ b1
  go_wp2_with fail
  refine (K1.out _ b1).mono ?_
  rintro e w2 ⟨rfl, b2⟩
  obtain ⟨_, x0_1, x1_1, x2_1, _⟩ := SBA.out _ b2
  go_wp2_with fail
  refine (K2.out _ b2).mono ?_
  rintro e w3 ⟨rfl, b3⟩
  obtain ⟨_, x0_2, x1_2, x2_2, _⟩ := SBA.out _ b3
  go_wp2_with fail
  refine (K3.out _ b3).mono ?_
  rintro e w4 ⟨rfl, b4⟩
  obtain ⟨_, x0_3, x1_3, x2_3, _⟩ := SBA.out _ b4
  go_wp2_with fail
  clear n0 n1 n2 m0 m1 m2 x0_0 x1_0 x2_0 x0_1 x1_1 x2_1 x0_2 x1_2 x2_2 x0_3 x1_3 x2_3
  go_region_held3 (fun w' => Below w0.heap.size w0 w' ∧ w'.cell? ⟨w.heap.size, 0, none⟩ = some (.int .i64 p) ∧ w'.cell? ⟨w.heap.size, 1, none⟩ = some (.slice A1 ev.length c1) ∧ w'.cell? ⟨w.heap.size, 2, none⟩ = some (.slice A2 ac.length c2) ∧ w'.cell? ⟨w.heap.size + 1, 0, none⟩ = some (.int .i64 e0) ∧ w'.cell? ⟨w.heap.size + 1, 1, none⟩ = some (.int .i64 e1) ∧ w'.cell? ⟨w.heap.size + 1, 2, none⟩ = some (.int .i64 e2))
    (first | exact SBA.out _ (by assumption) | exact SBA.out _ (below_drew b4))
    (first | (go_at_call 12; refine (K4.out _ ?_).mono ?_; (first | assumption | exact below_drew b4); rintro e w' ⟨rfl, hb⟩) | (go_at_call 13; refine (K5.out _ ?_).mono ?_; (first | assumption | exact below_drew b4); rintro e w' ⟨rfl, hb⟩) | (go_at_call 29; refine (K6.out _ ?_).mono ?_; (first | assumption | exact below_drew b4); rintro e w' ⟨rfl, hb⟩) | (go_at_call 34; refine (K7.out _ ?_).mono ?_; (first | assumption | exact below_drew b4); rintro e w' ⟨rfl, hb⟩) | (go_at_call 15; refine (K8.out _ ?_).mono ?_; (first | assumption | exact below_drew b4); rintro e w' ⟨rfl, hb⟩) | (go_at_call 35; refine (K9.out _ ?_).mono ?_; (first | assumption | exact below_drew b4); rintro e w' ⟨rfl, hb⟩) | (go_at_call 17; refine (K10.out _ ?_).mono ?_; (first | assumption | exact below_drew b4); rintro e w' ⟨rfl, hb⟩) | (go_at_call 36; refine (K11.out _ ?_).mono ?_; (first | assumption | exact below_drew b4); rintro e w' ⟨rfl, hb⟩) | (go_at_call 20; refine (K12.out _ ?_).mono ?_; (first | assumption | exact below_drew b4); rintro e w' ⟨rfl, hb⟩) | (go_at_call 37; refine (K13.out _ ?_).mono ?_; (first | assumption | exact below_drew b4); rintro e w' ⟨rfl, hb⟩))
  all_goals go_wp2
  go_ret
  exact ⟨rfl, HW.out.trans (hb.mono HW.out.size)⟩

end Go.Proofs.Ytapnkefhihgbbaa.PAll
