/- What calls of the Go functions below do, each under the premises that its theorem states. Laid by a program of the claimant, which drives the kit's print; some texts are written by hand. -/
import Derived.Test.YtdgdjbehddeepaaPAllx0
import Derived.Test.YtdgdjbehddeepaaPAllxf20
import Derived.Test.YtdgdjbehddeepaaPAllxf21
import Derived.Test.YtdgdjbehddeepaaPAllxf39
import Derived.Test.YtdgdjbehddeepaaPAllxf43
namespace Go.Proofs.Ytdgdjbehddeepaa.PAll
open Go.RowKit Go.Proofs.YtdgdjbehddeepaaW.PrintWords Go.Proofs.YtdgdjbehddeepaaW.PrintLast Go.Proofs.YtdgdjbehddeepaaW.PrintMore
attribute [local go_sem] max2_int min2_int max_two min_two max_three min_three max_four min_four   -- for this text's walks alone
set_option linter.unusedVariables false
set_option linter.unusedSimpArgs false

/-! ### railplanlaw20_PlatformExamples: function 6 -/
def ExC (ad : Addr) (B0 : Option Addr) (d0 : Nat) (B1 : Option Addr) (d1 : Nat) (a b : S28) (W : World) : Prop :=
  W.cell? ad = some (.int .i64 a.f0) ∧ W.cell? ⟨ad.block, ad.off + 1, none⟩ = some (.int .i64 a.f1) ∧ W.cell? ⟨ad.block, ad.off + 2, none⟩ = some (.slice B0 a.f2.length d0) ∧ W.cell? ⟨ad.block, ad.off + 3, none⟩ = some (.int .i64 b.f0) ∧ W.cell? ⟨ad.block, ad.off + 3 + 1, none⟩ = some (.int .i64 b.f1) ∧ W.cell? ⟨ad.block, ad.off + 3 + 2, none⟩ = some (.slice B1 b.f2.length d1) ∧
  (Kd.C (Kd.int .i64) W B0 a.f2.length a.f2 ∧ a.f2.length ≤ d0) ∧ (Kd.C (Kd.int .i64) W B1 b.f2.length b.f2 ∧ b.f2.length ≤ d1)
theorem ex_cell {w W : World} (hb : Below w.heap.size w W) {a : Addr} {v : Value} (h : w.cell? a = some v) : W.cell? a = some v := (hb.cell (World.block_lt_of_cell? w _ h)).trans h
theorem ExC.below {ad : Addr} {B0 : Option Addr} {d0 : Nat} {B1 : Option Addr} {d1 : Nat} {a b : S28} {w W : World} (h : ExC ad B0 d0 B1 d1 a b w) (hb : Below w.heap.size w W) : ExC ad B0 d0 B1 d1 a b W := by
  obtain ⟨h0, h1, h2, h3, h4, h5, ⟨h6, h7⟩, h8, h9⟩ := h
  exact ⟨ex_cell hb h0, ex_cell hb h1, ex_cell hb h2, ex_cell hb h3, ex_cell hb h4, ex_cell hb h5, ⟨Kd.C_below h6 hb, h7⟩, Kd.C_below h8 hb, h9⟩
theorem ExC.i0 {ad : Addr} {B0 : Option Addr} {d0 : Nat} {B1 : Option Addr} {d1 : Nat} {a b : S28} {w : World} (h : ExC ad B0 d0 B1 d1 a b w) : Kd.C (Kd.int .i64) w B0 a.f2.length a.f2 ∧ a.f2.length ≤ d0 := h.2.2.2.2.2.2.1
theorem ExC.i1 {ad : Addr} {B0 : Option Addr} {d0 : Nat} {B1 : Option Addr} {d1 : Nat} {a b : S28} {w : World} (h : ExC ad B0 d0 B1 d1 a b w) : Kd.C (Kd.int .i64) w B1 b.f2.length b.f2 ∧ b.f2.length ≤ d1 := h.2.2.2.2.2.2.2
theorem ex_ints {W : World} {A : Option Addr} {c base : Nat} {l : List Int} (h : Kd.C (Kd.int .i64) W A l.length l) (hl : l.length ≤ c) : Kd.V (Kd.int .i64) 3 W base (fun _ => True) (.slice A l.length c) l :=
  Kd.V_mk hl (fun W' hm => (Kd.heap_int .i64).C (fun k hk => hm k trivial hk) h)
theorem ex_two (a b : S28) (h : railplanlaw20_two.f = some [a, b]) (W : World) : Calls Try.prog 19 #[] W fun e w' => ∃ (ad : Addr) (c : Nat) (B0 : Option Addr) (d0 : Nat) (B1 : Option Addr) (d1 : Nat), e = .returned (.slice (some ad) 2 c) ∧ 2 ≤ c ∧ Kd.C k28 w' (some ad) 2 [a, b] ∧ ExC ad B0 d0 B1 d1 a b w' ∧ Below W.heap.size W w' := by
  refine (railplanlaw20_two.calls [a, b] W h).mono ?_
  rintro e w' ⟨v0, rfl, hN, hB⟩
  obtain ⟨A, cap, e1⟩ := Kd.N_slice hN
  subst e1
  obtain ⟨_, e3, e4⟩ := Kd.N_reads' hN
  obtain ⟨ad, B0, d0, e5, x00, x01, x02, l0, i0⟩ := at_T28 e4 0 (by omega) (by simp)
  obtain ⟨ad', B1, d1, e6, x10, x11, x12, l1', i1⟩ := at_T28 e4 1 (by omega) (by simp)
  cases e5
  cases e6
  refine ⟨_, cap, B0, d0, B1, d1, rfl, by simpa using e3, e4, ⟨?_, ?_, ?_, ?_, ?_, ?_, ⟨i0, l0⟩, i1, l1'⟩, hB⟩
  · simpa [Addr.add, rd_T28] using x00
  · simpa [Addr.add, rd_T28] using x01
  · simpa [Addr.add, rd_T28] using x02
  · simpa [Addr.add, rd_T28] using x10
  · simpa [Addr.add, rd_T28] using x11
  · simpa [Addr.add, rd_T28] using x12
theorem ex_join {σ : Type} {P : Program} {md : Region.Mode} {ops : Array Oper} {Q : Exit → Act → World → Prop} {S : World → Prop} {ds : List Nat} {fuel : Nat} {l : Array Bool} {a : Act} {w : World} (fuel' : Nat) (l' : Array Bool) (ac : σ → Act) (F : σ → World → Prop)
    (hcont : ∀ s w', F s w' → wpAnyLast P md ops Q S ds fuel' l' (ac s) w') (h : (∀ s w', F s w' → wpAnyLast P md ops Q S ds fuel' l' (ac s) w') → wpAnyLast P md ops Q S ds fuel l a w) : wpAnyLast P md ops Q S ds fuel l a w := h hcont
def railplanlaw20_PlatformExamples.f : Option Bool := some true
def railplanlaw20_PlatformExamples.Pure : Prop := ∃ (k : Nat) (a b : S28) (r1 : List Int), railplanlaw20_two.f = some [a, b] ∧ platform_Assign.f k 10 [a, b] 100 = some (r1, 4, 0) ∧ platform_Overlap.f k 10 a.f0 a.f1 a.f2 b.f0 b.f1 b.f2 = some true ∧ railplankeep_Same_int.f k r1 [2, 1] = some true ∧ platform_Proper.f k 10 [a, b] r1 = some true
set_option maxHeartbeats 8000000 in
set_option maxRecDepth 100000 in
theorem railplanlaw20_PlatformExamples.main (P : railplanlaw20_PlatformExamples.Pure) (w : World) :
    Calls Try.prog 6 #[] w fun e w' => e = .returned (.bool true) ∧ Below w.heap.size w w' := by
  obtain ⟨k, a, b, r1, htwo, has, hov, hsm, hpr⟩ := P
  have KT := Aside0.mk (fun (W : World) => ex_two a b htwo W)
  have KA := Aside0.mk (fun (W : World) (A : Option Addr) (c : Nat) (hr : Kd.C k28 W A 2 [a, b]) (hc : 2 ≤ c) => show Calls Try.prog 15 #[.int .i64 10, .slice A 2 c, .int .i64 100] W fun e w' => ∃ v0_ : Value, e = .returned (.tuple #[v0_, .int .i64 4, .int .i64 0]) ∧ Kd.R (Kd.int .i64) 3 w' W.heap.size (fun _ => True) v0_ r1 ∧ Below W.heap.size W w' from platform_Assign.calls k 10 A c [a, b] 100 r1 4 0 W hr hc has)
  have KO := Aside0.mk hov
  have KS := Aside0.mk hsm
  have KP := Aside0.mk hpr
  clear htwo has hov hsm hpr
  have hu28 := Try.underlying28
  go_enter Try.func6, Try.ntmps6
  go_wp2_with (first
    | (go_at_call 19; (with_reducible refine (KT.out _).mono ?_); rintro e w4 ⟨ad, c, B0, d0, B1, d1, rfl, h2, hC, _, hB⟩; have H2 := Aside0.mk h2; have HC := Aside0.mk hC; have HB4 := Aside0.mk hB; clear h2 hC hB)
    | (go_at_call 15; (with_reducible refine (KA.out _ _ _ HC.out H2.out).mono ?_); rintro e w5 ⟨v5, rfl, hR5, hB5⟩; have HB5 := Aside0.mk (below_step HB4.out hB5); obtain ⟨A5, c5, e5, hl5, hC5⟩ := Kd.R_reads hR5; have HL5 := Aside0.mk hl5; have HC5 := Aside0.mk hC5; subst e5; clear hR5 hB5 hl5 hC5))
  go_wp2
  refine start_ (n := 26) (S := fun _ => True) (ds := []) #[false, false, false, false, false, false, false, false, false, false, false, false, false, false, false, false, false, false, false, false, false, false, false, false, false, false] (by kernel_rfl) rfl rfl trivial (fun _ => ?_)
  refine one_ (i := 0) (N := some 10) #[true, false, false, false, false, false, false, false, false, false, false, false, false, false, false, false, false, false, false, false, false, false, false, false, false, false] rfl rfl (by kernel_rfl) (by decide) (fun K hK => ?_)
  refine goes_ Try.func19 (by kernel_rfl) rfl #[] (by rfl) rfl rfl (by simp) ?_
  refine (KT.out _).mono ?_
  rintro e wa ⟨aa, ca, D0, p0, D1, p1, rfl, _, _, hXa, hBa⟩
  refine ⟨_, rfl, ?_⟩
  have HXa := Aside0.mk hXa
  have HBa := Aside0.mk (below_step (below_drew (Below.refl _ _)) hBa)
  obtain ⟨y0, y1, y2, _⟩ := hXa
  clear hBa
  refine hK.out _ _ trivial (fun _ => ?_)
  clear hK K
  refine norm_ (a' := ?_) ?_ ?_
  rotate_left
  · show Act.put _ (some 10) _ = _
    simp only [Act.put, List.setIfInBounds_toArray, List.set_cons_zero, List.set_cons_succ, i64_w, i32_w]
    rfl
  refine pure_ (i := 1) (N := (some 11)) (v := ?_) (a' := ?_) #[true, true, false, false, false, false, false, false, false, false, false, false, false, false, false, false, false, false, false, false, false, false, false, false, false, false] rfl rfl (by kernel_rfl) (fun _ _ _ h => h) (Or.inl ⟨by rfl, ?_⟩) ?_ ?_
  rotate_left
  · intro w'; go_simp; with_reducible rfl
  rotate_left
  · simp only [Act.put, List.setIfInBounds_toArray, List.set_cons_zero, List.set_cons_succ, i64_w, i32_w]; rfl
  refine ex_join (σ := (Addr × Nat) × (Option Addr × Nat)) 20 #[true, true, true, true, true, true, false, false, false, false, false, false, false, false, false, false, false, false, false, false, false, false, false, false, false, false] (fun s => { tmps := #[.bool false, .slice A5 r1.length c5, .int .i64 4, .int .i64 0, .tuple #[.slice A5 r1.length c5, .int .i64 4, .int .i64 0], .slice (some ad) 2 c, .tuple #[.slice A5 r1.length c5, .int .i64 4, .int .i64 0], .slice A5 r1.length c5, .int .i64 4, .int .i64 0, .slice (some aa) 2 ca, .pointer (some aa), .agg #[.int .i64 a.f0, .int .i64 a.f1, .slice D0 a.f2.length p0], .slice (some s.1.1) 2 s.1.2, .pointer (some ⟨s.1.1.block, s.1.1.off + 3, none⟩), .agg #[.int .i64 b.f0, .int .i64 b.f1, .slice s.2.1 b.f2.length s.2.2], undef, undef, undef, undef, undef, undef, undef, undef, undef, undef, undef, undef, undef, undef, undef, undef, undef, undef, undef], defers := [] }) (fun s w' => (Kd.C (Kd.int .i64) w' D0 a.f2.length a.f2 ∧ a.f2.length ≤ p0) ∧ (Kd.C (Kd.int .i64) w' s.2.1 b.f2.length b.f2 ∧ b.f2.length ≤ s.2.2) ∧ Below w5.heap.size w5 w') ?_ ?_
  rotate_left
  · intro HCONT
    refine two_ (i := 2) (j := 3) (Ni := some 12) (Nj := some 13) #[true, true, true, false, false, false, false, false, false, false, false, false, false, false, false, false, false, false, false, false, false, false, false, false, false, false] #[true, true, false, true, false, false, false, false, false, false, false, false, false, false, false, false, false, false, false, false, false, false, false, false, false, false] rfl rfl rfl rfl (by kernel_rfl) (by decide) (by decide) (fun K hK => ?_) (fun K hK => ?_)
    · refine value_ (w1 := ?_) (v := ?_) (by rfl) rfl ?_ ?_
      rotate_left 2
      · go_simp
        constructor
        · rfl
        · rfl
      refine hK.out _ _ trivial (fun _ => ?_)
      clear hK K
      refine norm_ (a' := ?_) ?_ ?_
      rotate_left
      · show Act.put _ (some 12) _ = _
        simp only [Act.put, List.setIfInBounds_toArray, List.set_cons_zero, List.set_cons_succ, i64_w, i32_w]
        rfl
      refine one_ (i := 3) (N := some 13) #[true, true, true, true, false, false, false, false, false, false, false, false, false, false, false, false, false, false, false, false, false, false, false, false, false, false] rfl rfl (by kernel_rfl) (by decide) (fun K hK => ?_)
      refine goes_ Try.func19 (by kernel_rfl) rfl #[] (by rfl) rfl rfl (by simp) ?_
      refine (KT.out _).mono ?_
      rintro e wb ⟨ab, cb, C0, f0, C1, f1, rfl, _, _, hXb, hBb⟩
      refine ⟨_, rfl, ?_⟩
      have HXb := Aside0.mk hXb
      have HBb := Aside0.mk (below_step HBa.out hBb)
      have HXa2 := Aside0.mk (HXa.out.below hBb)
      obtain ⟨_, _, _, z3, z4, z5, _⟩ := hXb
      obtain ⟨u0, u1, u2, _⟩ := HXa2.out
      clear hBb y0 y1 y2
      refine hK.out _ _ trivial (fun _ => ?_)
      clear hK K
      refine norm_ (a' := ?_) ?_ ?_
      rotate_left
      · show Act.put _ (some 13) _ = _
        simp only [Act.put, List.setIfInBounds_toArray, List.set_cons_zero, List.set_cons_succ, i64_w, i32_w]
        rfl
      refine pure_ (i := 4) (N := (some 14)) (v := ?_) (a' := ?_) #[true, true, true, true, true, false, false, false, false, false, false, false, false, false, false, false, false, false, false, false, false, false, false, false, false, false] rfl rfl (by kernel_rfl) (fun _ _ _ h => h) (Or.inl ⟨by rfl, ?_⟩) ?_ ?_
      rotate_left
      · intro w'; go_simp; with_reducible rfl
      rotate_left
      · simp only [Act.put, List.setIfInBounds_toArray, List.set_cons_zero, List.set_cons_succ, i64_w, i32_w]; rfl
      refine one_ (i := 5) (N := some 15) #[true, true, true, true, true, true, false, false, false, false, false, false, false, false, false, false, false, false, false, false, false, false, false, false, false, false] rfl rfl (by kernel_rfl) (by decide) (fun K hK => ?_)
      refine value_ (w1 := ?_) (v := ?_) (by rfl) rfl ?_ ?_
      rotate_left 2
      · go_simp
        constructor
        · rfl
        · rfl
      refine hK.out _ _ trivial (fun _ => ?_)
      clear hK K
      refine norm_ (a' := ?_) ?_ ?_
      rotate_left
      · show Act.put _ (some 15) _ = _
        simp only [Act.put, List.setIfInBounds_toArray, List.set_cons_zero, List.set_cons_succ, i64_w, i32_w]
        rfl
      exact HCONT ((ab, cb), (C1, f1)) _ ⟨HXa2.out.i0, HXb.out.i1, HBb.out⟩
    · refine goes_ Try.func19 (by kernel_rfl) rfl #[] (by rfl) rfl rfl (by simp) ?_
      refine (KT.out _).mono ?_
      rintro e wb ⟨ab, cb, C0, f0, C1, f1, rfl, _, _, hXb, hBb⟩
      refine ⟨_, rfl, ?_⟩
      have HXb := Aside0.mk hXb
      have HBb := Aside0.mk (below_step HBa.out hBb)
      have HXa2 := Aside0.mk (HXa.out.below hBb)
      obtain ⟨_, _, _, z3, z4, z5, _⟩ := hXb
      obtain ⟨u0, u1, u2, _⟩ := HXa2.out
      clear hBb y0 y1 y2
      refine hK.out _ _ trivial (fun _ => ?_)
      clear hK K
      refine norm_ (a' := ?_) ?_ ?_
      rotate_left
      · show Act.put _ (some 13) _ = _
        simp only [Act.put, List.setIfInBounds_toArray, List.set_cons_zero, List.set_cons_succ, i64_w, i32_w]
        rfl
      refine pure_ (i := 4) (N := (some 14)) (v := ?_) (a' := ?_) #[true, true, false, true, true, false, false, false, false, false, false, false, false, false, false, false, false, false, false, false, false, false, false, false, false, false] rfl rfl (by kernel_rfl) (fun _ _ _ h => h) (Or.inl ⟨by rfl, ?_⟩) ?_ ?_
      rotate_left
      · intro w'; go_simp; with_reducible rfl
      rotate_left
      · simp only [Act.put, List.setIfInBounds_toArray, List.set_cons_zero, List.set_cons_succ, i64_w, i32_w]; rfl
      refine two_ (i := 2) (j := 5) (Ni := some 12) (Nj := some 15) #[true, true, true, true, true, false, false, false, false, false, false, false, false, false, false, false, false, false, false, false, false, false, false, false, false, false] #[true, true, false, true, true, true, false, false, false, false, false, false, false, false, false, false, false, false, false, false, false, false, false, false, false, false] rfl rfl rfl rfl (by kernel_rfl) (by decide) (by decide) (fun K hK => ?_) (fun K hK => ?_)
      · refine value_ (w1 := ?_) (v := ?_) (by rfl) rfl ?_ ?_
        rotate_left 2
        · go_simp
          constructor
          · rfl
          · rfl
        refine hK.out _ _ trivial (fun _ => ?_)
        clear hK K
        refine norm_ (a' := ?_) ?_ ?_
        rotate_left
        · show Act.put _ (some 12) _ = _
          simp only [Act.put, List.setIfInBounds_toArray, List.set_cons_zero, List.set_cons_succ, i64_w, i32_w]
          rfl
        refine one_ (i := 5) (N := some 15) #[true, true, true, true, true, true, false, false, false, false, false, false, false, false, false, false, false, false, false, false, false, false, false, false, false, false] rfl rfl (by kernel_rfl) (by decide) (fun K hK => ?_)
        refine value_ (w1 := ?_) (v := ?_) (by rfl) rfl ?_ ?_
        rotate_left 2
        · go_simp
          constructor
          · rfl
          · rfl
        refine hK.out _ _ trivial (fun _ => ?_)
        clear hK K
        refine norm_ (a' := ?_) ?_ ?_
        rotate_left
        · show Act.put _ (some 15) _ = _
          simp only [Act.put, List.setIfInBounds_toArray, List.set_cons_zero, List.set_cons_succ, i64_w, i32_w]
          rfl
        exact HCONT ((ab, cb), (C1, f1)) _ ⟨HXa2.out.i0, HXb.out.i1, HBb.out⟩
      · refine value_ (w1 := ?_) (v := ?_) (by rfl) rfl ?_ ?_
        rotate_left 2
        · go_simp
          constructor
          · rfl
          · rfl
        refine hK.out _ _ trivial (fun _ => ?_)
        clear hK K
        refine norm_ (a' := ?_) ?_ ?_
        rotate_left
        · show Act.put _ (some 15) _ = _
          simp only [Act.put, List.setIfInBounds_toArray, List.set_cons_zero, List.set_cons_succ, i64_w, i32_w]
          rfl
        refine one_ (i := 2) (N := some 12) #[true, true, true, true, true, true, false, false, false, false, false, false, false, false, false, false, false, false, false, false, false, false, false, false, false, false] rfl rfl (by kernel_rfl) (by decide) (fun K hK => ?_)
        refine value_ (w1 := ?_) (v := ?_) (by rfl) rfl ?_ ?_
        rotate_left 2
        · go_simp
          constructor
          · rfl
          · rfl
        refine hK.out _ _ trivial (fun _ => ?_)
        clear hK K
        refine norm_ (a' := ?_) ?_ ?_
        rotate_left
        · show Act.put _ (some 12) _ = _
          simp only [Act.put, List.setIfInBounds_toArray, List.set_cons_zero, List.set_cons_succ, i64_w, i32_w]
          rfl
        exact HCONT ((ab, cb), (C1, f1)) _ ⟨HXa2.out.i0, HXb.out.i1, HBb.out⟩
  · rintro ⟨⟨ab, cb⟩, C1, f1⟩ wb ⟨⟨hIa, hLa⟩, ⟨hIb, hLb⟩, hBb⟩
    dsimp only
    refine one_ (i := 6) (N := some 16) #[true, true, true, true, true, true, true, false, false, false, false, false, false, false, false, false, false, false, false, false, false, false, false, false, false, false] rfl rfl (by kernel_rfl) (by decide) (fun K hK => ?_)
    refine goes_ Try.func14 (by kernel_rfl) rfl #[.int .i64 10, .agg #[.int .i64 a.f0, .int .i64 a.f1, .slice D0 a.f2.length p0], .agg #[.int .i64 b.f0, .int .i64 b.f1, .slice C1 b.f2.length f1]] (by rfl) rfl rfl (by (try simp only [List.map_toArray, List.map_cons, List.map_nil]); first | done | rfl) ?_
    refine (platform_Overlap.calls k 10 a.f0 a.f1 (fun _ => True) D0 p0 a.f2 b.f0 b.f1 (fun _ => True) C1 f1 b.f2 true _ (ex_ints hIa hLa) (ex_ints hIb hLb) KO.out).mono ?_
    rintro e wc ⟨rfl, hBc⟩
    refine ⟨_, rfl, ?_⟩
    have HBc := Aside0.mk (below_step hBb hBc)
    clear hBb hBc hIa hLa hIb hLb
    refine hK.out _ _ trivial (fun _ => ?_)
    clear hK K
    refine norm_ (a' := ?_) ?_ ?_
    rotate_left
    · show Act.put _ (some 16) _ = _
      simp only [Act.put, List.setIfInBounds_toArray, List.set_cons_zero, List.set_cons_succ, i64_w, i32_w]
      rfl
    refine pure_ (i := 7) (N := (some 17)) (v := ?_) (a' := ?_) #[true, true, true, true, true, true, true, true, false, false, false, false, false, false, false, false, false, false, false, false, false, false, false, false, false, false] rfl rfl (by kernel_rfl) (fun _ _ _ h => h) (Or.inl ⟨by rfl, ?_⟩) ?_ ?_
    rotate_left
    · intro w'; go_simp; with_reducible rfl
    rotate_left
    · simp only [Act.put, List.setIfInBounds_toArray, List.set_cons_zero, List.set_cons_succ, i64_w, i32_w]; rfl
    refine pure_ (i := 8) (N := (some 18)) (v := ?_) (a' := ?_) #[true, true, true, true, true, true, true, true, true, false, false, false, false, false, false, false, false, false, false, false, false, false, false, false, false, false] rfl rfl (by kernel_rfl) (fun _ _ _ h => h) (Or.inl ⟨by rfl, ?_⟩) ?_ ?_
    rotate_left
    · intro w'; go_simp; with_reducible rfl
    rotate_left
    · simp only [Act.put, List.setIfInBounds_toArray, List.set_cons_zero, List.set_cons_succ, i64_w, i32_w]; rfl
    refine pure_ (i := 9) (N := (some 19)) (v := ?_) (a' := ?_) #[true, true, true, true, true, true, true, true, true, true, false, false, false, false, false, false, false, false, false, false, false, false, false, false, false, false] rfl rfl (by kernel_rfl) (fun _ _ _ h => h) (Or.inl ⟨by rfl, ?_⟩) ?_ ?_
    rotate_left
    · intro w'; go_simp; with_reducible rfl
    rotate_left
    · simp only [Act.put, List.setIfInBounds_toArray, List.set_cons_zero, List.set_cons_succ, i64_w, i32_w]; rfl
    refine pure_ (i := 10) (N := (some 20)) (v := ?_) (a' := ?_) #[true, true, true, true, true, true, true, true, true, true, true, false, false, false, false, false, false, false, false, false, false, false, false, false, false, false] rfl rfl (by kernel_rfl) (fun _ _ _ h => h) (Or.inl ⟨by rfl, ?_⟩) ?_ ?_
    rotate_left
    · intro w'; go_simp; with_reducible rfl
    rotate_left
    · simp only [Act.put, List.setIfInBounds_toArray, List.set_cons_zero, List.set_cons_succ, i64_w, i32_w]; rfl
    refine pure_ (i := 11) (N := (some 21)) (v := ?_) (a' := ?_) #[true, true, true, true, true, true, true, true, true, true, true, true, false, false, false, false, false, false, false, false, false, false, false, false, false, false] rfl rfl (by kernel_rfl) (fun _ _ _ h => h) (Or.inl ⟨by rfl, ?_⟩) ?_ ?_
    rotate_left
    · intro w'; go_simp; with_reducible rfl
    rotate_left
    · simp only [Act.put, List.setIfInBounds_toArray, List.set_cons_zero, List.set_cons_succ, i64_w, i32_w]; rfl
    refine pure_ (i := 12) (N := (some 22)) (v := ?_) (a' := ?_) #[true, true, true, true, true, true, true, true, true, true, true, true, true, false, false, false, false, false, false, false, false, false, false, false, false, false] rfl rfl (by kernel_rfl) (fun _ _ _ h => h) (Or.inl ⟨by rfl, ?_⟩) ?_ ?_
    rotate_left
    · intro w'; go_simp; with_reducible rfl
    rotate_left
    · simp only [Act.put, List.setIfInBounds_toArray, List.set_cons_zero, List.set_cons_succ, i64_w, i32_w]; rfl
    refine pure_ (i := 13) (N := (some 23)) (v := ?_) (a' := ?_) #[true, true, true, true, true, true, true, true, true, true, true, true, true, true, false, false, false, false, false, false, false, false, false, false, false, false] rfl rfl (by kernel_rfl) (fun _ _ _ h => h) (Or.inl ⟨by rfl, ?_⟩) ?_ ?_
    rotate_left
    · intro w'; go_simp; with_reducible rfl
    rotate_left
    · simp only [Act.put, List.setIfInBounds_toArray, List.set_cons_zero, List.set_cons_succ, i64_w, i32_w]; rfl
    refine pure_ (i := 14) (N := (some 24)) (v := ?_) (a' := ?_) #[true, true, true, true, true, true, true, true, true, true, true, true, true, true, true, false, false, false, false, false, false, false, false, false, false, false] rfl rfl (by kernel_rfl) (fun _ _ _ h => h) (Or.inl ⟨by rfl, ?_⟩) ?_ ?_
    rotate_left
    · intro w'; go_simp; with_reducible rfl
    rotate_left
    · simp only [Act.put, List.setIfInBounds_toArray, List.set_cons_zero, List.set_cons_succ, i64_w, i32_w]; rfl
    refine pure_ (i := 15) (N := (some 25)) (v := ?_) (a' := ?_) #[true, true, true, true, true, true, true, true, true, true, true, true, true, true, true, true, false, false, false, false, false, false, false, false, false, false] rfl rfl (by kernel_rfl) (fun _ _ _ h => h) (Or.inl ⟨by rfl, ?_⟩) ?_ ?_
    rotate_left
    · intro w'; go_simp; with_reducible rfl
    rotate_left
    · simp only [Act.put, List.setIfInBounds_toArray, List.set_cons_zero, List.set_cons_succ, i64_w, i32_w]; rfl
    refine pure_ (i := 16) (N := (some 26)) (v := ?_) (a' := ?_) #[true, true, true, true, true, true, true, true, true, true, true, true, true, true, true, true, true, false, false, false, false, false, false, false, false, false] rfl rfl (by kernel_rfl) (fun _ _ _ h => h) (Or.inl ⟨by rfl, ?_⟩) ?_ ?_
    rotate_left
    · intro w'; go_simp; with_reducible rfl
    rotate_left
    · simp only [Act.put, List.setIfInBounds_toArray, List.set_cons_zero, List.set_cons_succ, i64_w, i32_w]; rfl
    refine one_ (i := 17) (N := some 27) #[true, true, true, true, true, true, true, true, true, true, true, true, true, true, true, true, true, true, false, false, false, false, false, false, false, false] rfl rfl (by kernel_rfl) (by decide) (fun K hK => ?_)
    refine value_ (w1 := wc.alloc (.cells #[.int .i64 2, .int .i64 1] 3)) (v := .slice (some ⟨wc.heap.size, 0, none⟩) 2 2) (by rfl) rfl ?_ ?_
    · go_simp
    have hIn : Kd.C (Kd.int .i64) (wc.alloc (.cells #[.int .i64 2, .int .i64 1] 3)) (some ⟨wc.heap.size, 0, none⟩) 2 [2, 1] := Kd.C_of_reads (d := (0 : Int)) (h1 := fun _ => rfl) ⟨rfl, by omega, fun _ => ⟨_, rfl, fun j hj => by
      have e : j = 0 ∨ j = 1 := by omega
      rcases e with rfl | rfl
      · simp [Addr.add]
      · simp [Addr.add]⟩⟩
    have HIn := Aside0.mk hIn
    have HBd := Aside0.mk (below_alloc HBc.out (.cells #[.int .i64 2, .int .i64 1] 3))
    clear hIn
    refine hK.out _ _ trivial (fun _ => ?_)
    clear hK K
    refine norm_ (a' := ?_) ?_ ?_
    rotate_left
    · show Act.put _ (some 27) _ = _
      simp only [Act.put, List.setIfInBounds_toArray, List.set_cons_zero, List.set_cons_succ, i64_w, i32_w]
      rfl
    refine one_ (i := 18) (N := some 28) #[true, true, true, true, true, true, true, true, true, true, true, true, true, true, true, true, true, true, true, false, false, false, false, false, false, false] rfl rfl (by kernel_rfl) (by decide) (fun K hK => ?_)
    generalize hwd : wc.alloc (.cells #[.int .i64 2, .int .i64 1] 3) = wd at HIn HBd ⊢
    clear hwd
    refine goes_ Try.func20 (by kernel_rfl) rfl #[.slice A5 r1.length c5, .slice (some ⟨wc.heap.size, 0, none⟩) 2 2] (by rfl) rfl rfl (by (try simp only [List.map_toArray, List.map_cons, List.map_nil]); first | done | rfl) ?_
    refine (railplankeep_Same_int.calls k A5 c5 r1 (some ⟨wc.heap.size, 0, none⟩) 2 [2, 1] true _ (Kd.C_below HC5.out HBd.out) HL5.out HIn.out (by decide) KS.out).mono ?_
    rintro e we ⟨rfl, ⟨ne, rfl⟩⟩
    refine ⟨_, rfl, ?_⟩
    have HBe := Aside0.mk (pw_below_drewN HBd.out ne)
    clear HIn HBd
    refine hK.out _ _ trivial (fun _ => ?_)
    clear hK K
    refine norm_ (a' := ?_) ?_ ?_
    rotate_left
    · show Act.put _ (some 28) _ = _
      simp only [Act.put, List.setIfInBounds_toArray, List.set_cons_zero, List.set_cons_succ, i64_w, i32_w]
      rfl
    refine pure_ (i := 19) (N := (some 29)) (v := ?_) (a' := ?_) #[true, true, true, true, true, true, true, true, true, true, true, true, true, true, true, true, true, true, true, true, false, false, false, false, false, false] rfl rfl (by kernel_rfl) (fun _ _ _ h => h) (Or.inl ⟨by rfl, ?_⟩) ?_ ?_
    rotate_left
    · intro w'; go_simp; with_reducible rfl
    rotate_left
    · simp only [Act.put, List.setIfInBounds_toArray, List.set_cons_zero, List.set_cons_succ, i64_w, i32_w]; rfl
    refine pure_ (i := 20) (N := (some 30)) (v := ?_) (a' := ?_) #[true, true, true, true, true, true, true, true, true, true, true, true, true, true, true, true, true, true, true, true, true, false, false, false, false, false] rfl rfl (by kernel_rfl) (fun _ _ _ h => h) (Or.inl ⟨by rfl, ?_⟩) ?_ ?_
    rotate_left
    · intro w'; go_simp; with_reducible rfl
    rotate_left
    · simp only [Act.put, List.setIfInBounds_toArray, List.set_cons_zero, List.set_cons_succ, i64_w, i32_w]; rfl
    refine pure_ (i := 22) (N := (some 32)) (v := ?_) (a' := ?_) #[true, true, true, true, true, true, true, true, true, true, true, true, true, true, true, true, true, true, true, true, true, false, true, false, false, false] rfl rfl (by kernel_rfl) (fun _ _ _ h => h) (Or.inl ⟨by rfl, ?_⟩) ?_ ?_
    rotate_left
    · intro w'; go_simp; with_reducible rfl
    rotate_left
    · simp only [Act.put, List.setIfInBounds_toArray, List.set_cons_zero, List.set_cons_succ, i64_w, i32_w]; rfl
    refine one_ (i := 21) (N := some 31) #[true, true, true, true, true, true, true, true, true, true, true, true, true, true, true, true, true, true, true, true, true, true, true, false, false, false] rfl rfl (by kernel_rfl) (by decide) (fun K hK => ?_)
    refine goes_ Try.func19 (by kernel_rfl) rfl #[] (by rfl) rfl rfl (by simp) ?_
    refine (KT.out _).mono ?_
    rintro e wg ⟨ag, cg, G0, i0, G1, i1, rfl, h2g, hCg, _, hBg⟩
    refine ⟨_, rfl, ?_⟩
    have HBg := Aside0.mk (below_step HBe.out hBg)
    have H2g := Aside0.mk h2g
    have HCg := Aside0.mk hCg
    clear hBg h2g hCg
    refine hK.out _ _ trivial (fun _ => ?_)
    clear hK K
    refine norm_ (a' := ?_) ?_ ?_
    rotate_left
    · show Act.put _ (some 31) _ = _
      simp only [Act.put, List.setIfInBounds_toArray, List.set_cons_zero, List.set_cons_succ, i64_w, i32_w]
      rfl
    refine one_ (i := 23) (N := some 33) #[true, true, true, true, true, true, true, true, true, true, true, true, true, true, true, true, true, true, true, true, true, true, true, true, false, false] rfl rfl (by kernel_rfl) (by decide) (fun K hK => ?_)
    refine goes_ Try.func21 (by kernel_rfl) rfl #[.int .i64 10, .slice (some ag) 2 cg, .slice A5 r1.length c5] (by rfl) rfl rfl (by (try simp only [List.map_toArray, List.map_cons, List.map_nil]); first | done | rfl) ?_
    refine (platform_Proper.calls k 10 (some ag) cg [a, b] A5 c5 r1 true _ HCg.out H2g.out (Kd.C_below HC5.out HBg.out) HL5.out KP.out).mono ?_
    rintro e wh ⟨rfl, hBh⟩
    refine ⟨_, rfl, ?_⟩
    have HBh := Aside0.mk (below_step HBg.out hBh)
    clear hBh
    refine hK.out _ _ trivial (fun _ => ?_)
    clear hK K
    refine norm_ (a' := ?_) ?_ ?_
    rotate_left
    · show Act.put _ (some 33) _ = _
      simp only [Act.put, List.setIfInBounds_toArray, List.set_cons_zero, List.set_cons_succ, i64_w, i32_w]
      rfl
    refine pure_ (i := 24) (N := (some 34)) (v := ?_) (a' := ?_) #[true, true, true, true, true, true, true, true, true, true, true, true, true, true, true, true, true, true, true, true, true, true, true, true, true, false] rfl rfl (by kernel_rfl) (fun _ _ _ h => h) (Or.inl ⟨by rfl, ?_⟩) ?_ ?_
    rotate_left
    · intro w'; go_simp; with_reducible rfl
    rotate_left
    · simp only [Act.put, List.setIfInBounds_toArray, List.set_cons_zero, List.set_cons_succ, i64_w, i32_w]; rfl
    refine pure_ (i := 25) (N := (some 0)) (v := ?_) (a' := ?_) #[true, true, true, true, true, true, true, true, true, true, true, true, true, true, true, true, true, true, true, true, true, true, true, true, true, true] rfl rfl (by kernel_rfl) (fun _ _ _ h => h) (Or.inl ⟨by rfl, ?_⟩) ?_ ?_
    rotate_left
    · intro w'; go_simp; with_reducible rfl
    rotate_left
    · simp only [Act.put, List.setIfInBounds_toArray, List.set_cons_zero, List.set_cons_succ, i64_w, i32_w]; rfl
    refine done_ (by kernel_rfl) ?_
    go_wp2
    go_ret
    exact ⟨rfl, below_step HB5.out HBh.out⟩


theorem railplanlaw20_PlatformExamples.walk (P : railplanlaw20_PlatformExamples.Pure)  (w : World)  :
    Calls Try.prog 6 #[] w fun e w' => e = .returned (.bool true) ∧ Below w.heap.size w w' := by
  exact railplanlaw20_PlatformExamples.main P  w 

end Go.Proofs.Ytdgdjbehddeepaa.PAll
