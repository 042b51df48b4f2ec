/- For every input the law PlatformRaw returns true, and each argument reads afterwards as it read before; no condition. -/
import Derived.Test.YtdgdjbehddeepaaRows
import Derived.Test.YtdgdjbehddeepaaPAllxf9
import Derived.Test.YtdgdjbehddeepaaPurePlatformRaw
import Derived.Test.YtdgdjbehddeepaaPAllxpre
import Derived.WalkKit
import Derived.ProofKit
import Derived.OpenShut
import Derived.ShutString
import Derived.ChangeOld
import Derived.Below
import Derived.SizedLaws
import Derived.Test.YtdgdjbehddeepaaWSized
namespace Go.Proofs.Ytdgdjbehddeepaa.platformRaw
open Go.ChangeShapes Go.WideShapes Go.ChangeAt Go.RowKit Go.Proofs.Ytdgdjbehddeepaa.PAll Go.Proofs.YtdgdjbehddeepaaW.PrintWords Go.Proofs.YtdgdjbehddeepaaW.PrintLast
open Go.ChangeMaps (open_string shut_string)
set_option linter.unusedVariables false
theorem own : ownKnob Try.prog.godebug = none := by kernel_rfl
theorem laidOut : laidOutB Try.prog = true := by kernel_rfl
def wfT28 (x : S28) : Prop := (fun n => (Lit.int .i64 n).wf = true) x.f0 ∧ (fun n => (Lit.int .i64 n).wf = true) x.f1 ∧ (fun xs => ∀ x ∈ xs, (fun n => (Lit.int .i64 n).wf = true) x) x.f2
theorem RK_T28 (W : World) : RK Try.prog W 28 k28 wfT28 := fun H enc fuel cs x h => by
  obtain ⟨xs, n, _, _, hlen, hxl, hf⟩ := DataW.trod_struct Try.underlying28 h
  rw [show Try.prog.cellsOf 28 = 3 from by kernel_rfl] at hlen
  replace hxl : xs.length = 3 := hxl
  obtain ⟨c0, c1, c2, rfl⟩ : ∃ c0 c1 c2, cs = [c0, c1, c2] := by match cs, hlen with | [c0, c1, c2], _ => exact ⟨_, _, _, rfl⟩
  have f0 : DataW.trod enc Try.prog W 0 (fun _ => true) true n 3 (([c0, c1, c2].drop 0).take (Try.prog.cellsOf 3)) = xs[0]? := hf 0 _ rfl
  rw [show Try.prog.cellsOf 3 = 1 from by kernel_rfl, List.getElem?_eq_getElem (by omega)] at f0
  obtain ⟨a0, k0_, w0⟩ := (RK.int .i64 Try.underlying3) H enc n [c0] _ f0
  have f1 : DataW.trod enc Try.prog W 0 (fun _ => true) true n 3 (([c0, c1, c2].drop 1).take (Try.prog.cellsOf 3)) = xs[1]? := hf 1 _ rfl
  rw [show Try.prog.cellsOf 3 = 1 from by kernel_rfl, List.getElem?_eq_getElem (by omega)] at f1
  obtain ⟨a1, k1_, w1⟩ := (RK.int .i64 Try.underlying3) H enc n [c1] _ f1
  have f2 : DataW.trod enc Try.prog W 0 (fun _ => true) true n 22 (([c0, c1, c2].drop 2).take (Try.prog.cellsOf 22)) = xs[2]? := hf 2 _ rfl
  rw [show Try.prog.cellsOf 22 = 1 from by kernel_rfl, List.getElem?_eq_getElem (by omega)] at f2
  obtain ⟨a2, k2_, w2⟩ := (RK.slice Try.underlying22 (by kernel_rfl) (RK.int .i64 Try.underlying3)) H enc n [c2] _ f2
  exact ⟨⟨a0, a1, a2⟩, ⟨[c0], [c1, c2], rfl, k0_, ⟨[c1], [c2], rfl, k1_, k2_⟩⟩, ⟨w0, w1, w2⟩⟩
def IsRow (k : IntKind) (w : World) (a : Option Addr) (len cap : Nat) (zs : List Int) : Prop :=
  (a = none ∧ len = 0 ∧ cap = 0 ∧ zs = []) ∨
  ∃ x, a = some x ∧ len ≤ cap ∧ cap ≤ maxLen ∧ zs.length = cap ∧ (∀ i, i < zs.length → w.cell? (x.add i) = some (.int k (zs.getD i 0))) ∧ ∀ n ∈ zs, (Lit.int k n).wf = true
set_option maxHeartbeats 2000000 in
set_option maxRecDepth 100000 in
theorem lifted (os : Os) (started : os.Started) (H : Type) (enc : TypeId × Value → H) :
    ReturnsInHanded {} Try.checked os 9 .any (Rows.platformRawSpec.pre6 enc Try.prog Try.f9 Rows.platformRawRow.domain false) (Rows.platformRawSpec.post enc Try.prog Try.f9 false true false false) := by
  refine returnsInHanded_of_change_sized (C := Try.checked) own started (by kernel_rfl) Try.func9
    (ChangeSpec.witness6 (enc := enc) (C := Try.checked) false ⟨#[], #[.int .i64 0, .slice none 0 0, .agg #[.int .i64 0, .int .i64 0, .slice none 0 0], .agg #[.int .i64 0, .int .i64 0, .slice none 0 0], .slice none 0 0, .int .i64 0], []⟩ 8 (by kernel_rfl) (by kernel_rfl) (by kernel_rfl) (by kernel_rfl)) ?_
  intro W base args ds gs before hval0 hW hcnd hsz0 _
  have hsz : (DataW.weightsEach Try.prog (Try.f9.params.toList ++ Rows.platformRawSpec.plain.varTypes Try.prog) (ds ++ gs)).all (· ≤ reachBytes) = true := hsz0
  have hval : ∀ (j : Nat) t v, Try.f9.params[j]? = some t → args[j]? = some v → Value.okWide Try.prog W .any base t v := hval0
  have hW' := hW
  obtain ⟨p, q, hA0, hV, rfl, hfz, hnd⟩ := hW
  have hA : DataW.TrodAll enc Try.prog W 0 (fun _ => true) true Try.f9.params.toList args.toList ds p := hA0
  rw [Try.params9] at hA hval hsz
  obtain ⟨v0, vs0, d0, ds0, p0, q0, hargs, rfl, rfl, h0, r0⟩ := trodAll_cons hA
  obtain ⟨v1, vs1, d1, ds1, p1, q1, rfl, rfl, rfl, h1, r1⟩ := trodAll_cons r0
  obtain ⟨v2, vs2, d2, ds2, p2, q2, rfl, rfl, rfl, h2, r2⟩ := trodAll_cons r1
  obtain ⟨v3, vs3, d3, ds3, p3, q3, rfl, rfl, rfl, h3, r3⟩ := trodAll_cons r2
  obtain ⟨v4, vs4, d4, ds4, p4, q4, rfl, rfl, rfl, h4, r4⟩ := trodAll_cons r3
  obtain ⟨v5, vs5, d5, ds5, p5, q5, rfl, rfl, rfl, h5, r5⟩ := trodAll_cons r4
  obtain ⟨rfl, rfl, rfl⟩ := trodAll_nil r5
  obtain rfl : args = #[v0, v1, v2, v3, v4, v5] := by cases args; simp_all
  obtain ⟨rfl, rfl⟩ := trodVars_none hV
  obtain ⟨a0, rfl, rfl, rfl, w0⟩ := open_int Try.underlying3 (hval 0 3 v0 rfl rfl) h0
  have k1 := h1
  have lt1 : ∀ x ∈ p1, x.block < W.heap.size := by obtain ⟨m, hm⟩ := k1; exact DataW.trod_lt m _ _ _ hm
  obtain ⟨A1, len1, c1, rfl⟩ := okWide_slice Try.underlying24 (hval 1 24 v1 rfl rfl)
  obtain ⟨fu1, hf1⟩ := h1
  obtain ⟨x1, hK1, w1⟩ := (RK.slice Try.underlying24 (by kernel_rfl) (RK_T28 _)) H enc fu1 _ _ hf1
  obtain ⟨A1', c1', e1, hc1, hr1⟩ := hK1
  obtain ⟨rfl, rfl, rfl⟩ : A1 = A1' ∧ len1 = x1.length ∧ c1 = c1' := by simpa [Value.cells] using e1
  have k2 := h2
  have lt2 : ∀ x ∈ p2, x.block < W.heap.size := by obtain ⟨m, hm⟩ := k2; exact DataW.trod_lt m _ _ _ hm
  obtain ⟨cs2, rfl, _⟩ := okWide_struct Try.underlying28 (hval 2 28 v2 rfl rfl)
  obtain ⟨fu2, hf2⟩ := h2
  obtain ⟨x2, hK2, w2⟩ := (RK_T28 _) H enc fu2 _ _ hf2
  obtain ⟨A2_2, c2_2, e2, hc2_2, hr2_2⟩ := k28_open hK2
  obtain rfl : cs2 = #[.int .i64 x2.f0, .int .i64 x2.f1, .slice A2_2 x2.f2.length c2_2] := by cases cs2; simpa [Value.cells] using e2
  have k3 := h3
  have lt3 : ∀ x ∈ p3, x.block < W.heap.size := by obtain ⟨m, hm⟩ := k3; exact DataW.trod_lt m _ _ _ hm
  obtain ⟨cs3, rfl, _⟩ := okWide_struct Try.underlying28 (hval 3 28 v3 rfl rfl)
  obtain ⟨fu3, hf3⟩ := h3
  obtain ⟨x3, hK3, w3⟩ := (RK_T28 _) H enc fu3 _ _ hf3
  obtain ⟨A3_2, c3_2, e3, hc3_2, hr3_2⟩ := k28_open hK3
  obtain rfl : cs3 = #[.int .i64 x3.f0, .int .i64 x3.f1, .slice A3_2 x3.f2.length c3_2] := by cases cs3; simpa [Value.cells] using e3
  have k4 := h4
  have lt4 : ∀ x ∈ p4, x.block < W.heap.size := by obtain ⟨m, hm⟩ := k4; exact DataW.trod_lt m _ _ _ hm
  obtain ⟨A4, len4, c4, rfl⟩ := okWide_slice Try.underlying22 (hval 4 22 v4 rfl rfl)
  have y4 : len4 * 8 ≤ 140737488351232 := Go.Proofs.YtdgdjbehddeepaaW.PrintWords.sized_ints hsz (j := 4) (t := 22) rfl rfl Try.underlying22 Try.underlying3 (by kernel_rfl) (by kernel_rfl) h4
  obtain ⟨fu4, hf4⟩ := h4
  obtain ⟨x4, hK4, w4⟩ := (RK.slice Try.underlying22 (by kernel_rfl) (RK.int .i64 Try.underlying3)) H enc fu4 _ _ hf4
  obtain ⟨A4', c4', e4, hc4, hr4⟩ := hK4
  obtain ⟨rfl, rfl, rfl⟩ : A4 = A4' ∧ len4 = x4.length ∧ c4 = c4' := by simpa [Value.cells] using e4
  obtain ⟨a5, rfl, rfl, rfl, w5⟩ := open_int Try.underlying3 (hval 5 3 v5 rfl rfl) h5
  clear hA0 hval0 hsz0 hsz
  obtain ⟨k, h⟩ := Pure.PlatformRaw a0 x1 x2 x3 x4 a5 (by exact w0) (by exact w1) (by exact w2) (by exact w3) (by exact y4) (by exact w4) (by exact w5)
  refine (railplanlaw20_PlatformRaw.calls k a0 A1 c1 x1 x2.f0 x2.f1 A2_2 c2_2 x2.f2 x3.f0 x3.f1 A3_2 c3_2 x3.f2 A4 c4 x4 a5 true W hr1 hc1 hr2_2 hc2_2 hr3_2 hc3_2 hr4 hc4 h).mono fun e W' ⟨he, bel⟩ => ?_
  subst he
  exact ⟨_, rfl, _, _, _, [], _, [], hW', trodAll_mk1 (shut_bool Try.underlying4 _), (trodAll_cons_mk (shut_int Try.underlying3 w0) (trodAll_cons_mk (Below.trod laidOut (by kernel_rfl) (of_decide_eq_true (by kernel_rfl)) k1 bel lt1) (trodAll_cons_mk (Below.trod laidOut (by kernel_rfl) (of_decide_eq_true (by kernel_rfl)) k2 bel lt2) (trodAll_cons_mk (Below.trod laidOut (by kernel_rfl) (of_decide_eq_true (by kernel_rfl)) k3 bel lt3) (trodAll_cons_mk (Below.trod laidOut (by kernel_rfl) (of_decide_eq_true (by kernel_rfl)) k4 bel lt4) (trodAll_cons_mk (shut_int Try.underlying3 w5) trodAll_mk0)))))), rfl, bel.frame _, fun h => by cases h⟩
theorem over : Rows.platformRawRow.holds Try.pinned (OpenSpec.ofChange Rows.platformRawSpec) :=
  OpenClaim.holds_of_wide 9 Try.f9 rfl rfl rfl rfl rfl rfl rfl ⟨rfl, rfl, rfl, rfl, rfl⟩ rfl rfl rfl rfl rfl (by kernel_rfl) Try.func9 (by kernel_rfl)
    (of_decide_eq_true (by kernel_rfl)) (by unfold Func.isWrapper; first | (rw [if_pos (by decide +kernel)]; kernel_rfl) | (rw [if_neg (by decide +kernel)]; exact ⟨rfl, rfl⟩))
    (fun os started H enc _ => lifted os started H enc)
theorem proved : Rows.PlatformRawSaid := over
#print axioms proved
end Go.Proofs.Ytdgdjbehddeepaa.platformRaw
namespace Go.Proofs.Ytdgdjbehddeepaa
/-- The row, under a short name, for the claim. -/
theorem platformRaw_holds : Rows.PlatformRawSaid := platformRaw.proved
end Go.Proofs.Ytdgdjbehddeepaa
