/- For every input the law NetworkGenerated returns true, and each argument reads afterwards as it read before; no condition. -/
import Derived.Test.YtapnkefhihgbbaaRows
import Derived.Test.YtapnkefhihgbbaaPAllxf8
import Derived.Test.YtapnkefhihgbbaaPureNetworkGenerated
import Derived.WalkKit
import Derived.ProofKit
import Derived.OpenShut
import Derived.ShutString
import Derived.ChangeOld
import Derived.Below
import Derived.SizedLaws
import Derived.Test.YtapnkefhihgbbaaWSized
namespace Go.Proofs.Ytapnkefhihgbbaa.networkGenerated
open Go.ChangeShapes Go.WideShapes Go.ChangeAt Go.RowKit Go.Proofs.Ytapnkefhihgbbaa.PAll Go.Proofs.YtapnkefhihgbbaaW.PrintWords Go.Proofs.YtapnkefhihgbbaaW.PrintLast
open Go.ChangeMaps (open_string shut_string)
set_option linter.unusedVariables false
theorem own : ownKnob Try.prog.godebug = none := by kernel_rfl
theorem laidOut : laidOutB Try.prog = true := by kernel_rfl
def wfT46 (x : S46) : Prop := (fun n => (Lit.int .i64 n).wf = true) x.f0 ∧ (fun n => (Lit.int .i64 n).wf = true) x.f1 ∧ (fun n => (Lit.int .i64 n).wf = true) x.f2
theorem RK_T46 (W : World) : RK Try.prog W 46 k46 wfT46 := fun H enc fuel cs x h => by
  obtain ⟨xs, n, _, _, hlen, hxl, hf⟩ := DataW.trod_struct Try.underlying46 h
  rw [show Try.prog.cellsOf 46 = 3 from by kernel_rfl] at hlen
  replace hxl : xs.length = 3 := hxl
  obtain ⟨c0, c1, c2, rfl⟩ : ∃ c0 c1 c2, cs = [c0, c1, c2] := by match cs, hlen with | [c0, c1, c2], _ => exact ⟨_, _, _, rfl⟩
  have f0 : DataW.trod enc Try.prog W 0 (fun _ => true) true n 3 (([c0, c1, c2].drop 0).take (Try.prog.cellsOf 3)) = xs[0]? := hf 0 _ rfl
  rw [show Try.prog.cellsOf 3 = 1 from by kernel_rfl, List.getElem?_eq_getElem (by omega)] at f0
  obtain ⟨a0, k0_, w0⟩ := (RK.int .i64 Try.underlying3) H enc n [c0] _ f0
  have f1 : DataW.trod enc Try.prog W 0 (fun _ => true) true n 3 (([c0, c1, c2].drop 1).take (Try.prog.cellsOf 3)) = xs[1]? := hf 1 _ rfl
  rw [show Try.prog.cellsOf 3 = 1 from by kernel_rfl, List.getElem?_eq_getElem (by omega)] at f1
  obtain ⟨a1, k1_, w1⟩ := (RK.int .i64 Try.underlying3) H enc n [c1] _ f1
  have f2 : DataW.trod enc Try.prog W 0 (fun _ => true) true n 3 (([c0, c1, c2].drop 2).take (Try.prog.cellsOf 3)) = xs[2]? := hf 2 _ rfl
  rw [show Try.prog.cellsOf 3 = 1 from by kernel_rfl, List.getElem?_eq_getElem (by omega)] at f2
  obtain ⟨a2, k2_, w2⟩ := (RK.int .i64 Try.underlying3) H enc n [c2] _ f2
  exact ⟨⟨a0, a1, a2⟩, ⟨[c0], [c1, c2], rfl, k0_, ⟨[c1], [c2], rfl, k1_, k2_⟩⟩, ⟨w0, w1, w2⟩⟩
def IsRow (k : IntKind) (w : World) (a : Option Addr) (len cap : Nat) (zs : List Int) : Prop :=
  (a = none ∧ len = 0 ∧ cap = 0 ∧ zs = []) ∨
  ∃ x, a = some x ∧ len ≤ cap ∧ cap ≤ maxLen ∧ zs.length = cap ∧ (∀ i, i < zs.length → w.cell? (x.add i) = some (.int k (zs.getD i 0))) ∧ ∀ n ∈ zs, (Lit.int k n).wf = true
set_option maxHeartbeats 2000000 in
set_option maxRecDepth 100000 in
theorem lifted (os : Os) (started : os.Started) (H : Type) (enc : TypeId × Value → H) :
    ReturnsInHanded {} Try.checked os 8 .any (Rows.networkGeneratedSpec.pre6 enc Try.prog Try.f8 Rows.networkGeneratedRow.domain false) (Rows.networkGeneratedSpec.post enc Try.prog Try.f8 false true false false) := by
  refine returnsInHanded_of_change_sized (C := Try.checked) own started (by kernel_rfl) Try.func8
    (ChangeSpec.witness6 (enc := enc) (C := Try.checked) false ⟨#[], #[.slice none 0 0, .slice none 0 0, .int .i64 0, .agg #[.int .i64 0, .int .i64 0, .int .i64 0]], []⟩ 8 (by kernel_rfl) (by kernel_rfl) (by kernel_rfl) (by kernel_rfl)) ?_
  intro W base args ds gs before hval0 hW hcnd hsz0 _
  have hsz : (DataW.weightsEach Try.prog (Try.f8.params.toList ++ Rows.networkGeneratedSpec.plain.varTypes Try.prog) (ds ++ gs)).all (· ≤ reachBytes) = true := hsz0
  have hval : ∀ (j : Nat) t v, Try.f8.params[j]? = some t → args[j]? = some v → Value.okWide Try.prog W .any base t v := hval0
  have hW' := hW
  obtain ⟨p, q, hA0, hV, rfl, hfz, hnd⟩ := hW
  have hA : DataW.TrodAll enc Try.prog W 0 (fun _ => true) true Try.f8.params.toList args.toList ds p := hA0
  rw [Try.params8] at hA hval hsz
  obtain ⟨v0, vs0, d0, ds0, p0, q0, hargs, rfl, rfl, h0, r0⟩ := trodAll_cons hA
  obtain ⟨v1, vs1, d1, ds1, p1, q1, rfl, rfl, rfl, h1, r1⟩ := trodAll_cons r0
  obtain ⟨v2, vs2, d2, ds2, p2, q2, rfl, rfl, rfl, h2, r2⟩ := trodAll_cons r1
  obtain ⟨v3, vs3, d3, ds3, p3, q3, rfl, rfl, rfl, h3, r3⟩ := trodAll_cons r2
  obtain ⟨rfl, rfl, rfl⟩ := trodAll_nil r3
  obtain rfl : args = #[v0, v1, v2, v3] := by cases args; simp_all
  obtain ⟨rfl, rfl⟩ := trodVars_none hV
  have k0 := h0
  have lt0 : ∀ x ∈ p0, x.block < W.heap.size := by obtain ⟨m, hm⟩ := k0; exact DataW.trod_lt m _ _ _ hm
  obtain ⟨A0, len0, c0, rfl⟩ := okWide_slice Try.underlying22 (hval 0 22 v0 rfl rfl)
  have y0 : len0 * 8 ≤ 140737488351232 := Go.Proofs.YtapnkefhihgbbaaW.PrintWords.sized_ints hsz (j := 0) (t := 22) rfl rfl Try.underlying22 Try.underlying3 (by kernel_rfl) (by kernel_rfl) h0
  obtain ⟨fu0, hf0⟩ := h0
  obtain ⟨x0, hK0, w0⟩ := (RK.slice Try.underlying22 (by kernel_rfl) (RK.int .i64 Try.underlying3)) H enc fu0 _ _ hf0
  obtain ⟨A0', c0', e0, hc0, hr0⟩ := hK0
  obtain ⟨rfl, rfl, rfl⟩ : A0 = A0' ∧ len0 = x0.length ∧ c0 = c0' := by simpa [Value.cells] using e0
  have k1 := h1
  have lt1 : ∀ x ∈ p1, x.block < W.heap.size := by obtain ⟨m, hm⟩ := k1; exact DataW.trod_lt m _ _ _ hm
  obtain ⟨A1, len1, c1, rfl⟩ := okWide_slice Try.underlying22 (hval 1 22 v1 rfl rfl)
  have y1 : len1 * 8 ≤ 140737488351232 := Go.Proofs.YtapnkefhihgbbaaW.PrintWords.sized_ints hsz (j := 1) (t := 22) rfl rfl Try.underlying22 Try.underlying3 (by kernel_rfl) (by kernel_rfl) h1
  obtain ⟨fu1, hf1⟩ := h1
  obtain ⟨x1, hK1, w1⟩ := (RK.slice Try.underlying22 (by kernel_rfl) (RK.int .i64 Try.underlying3)) H enc fu1 _ _ hf1
  obtain ⟨A1', c1', e1, hc1, hr1⟩ := hK1
  obtain ⟨rfl, rfl, rfl⟩ : A1 = A1' ∧ len1 = x1.length ∧ c1 = c1' := by simpa [Value.cells] using e1
  obtain ⟨a2, rfl, rfl, rfl, w2⟩ := open_int Try.underlying3 (hval 2 3 v2 rfl rfl) h2
  have k3 := h3
  have lt3 : ∀ x ∈ p3, x.block < W.heap.size := by obtain ⟨m, hm⟩ := k3; exact DataW.trod_lt m _ _ _ hm
  obtain ⟨cs3, rfl, _⟩ := okWide_struct Try.underlying46 (hval 3 46 v3 rfl rfl)
  obtain ⟨fu3, hf3⟩ := h3
  obtain ⟨x3, hK3, w3⟩ := (RK_T46 _) H enc fu3 _ _ hf3
  have e3 := k46_open hK3
  obtain rfl : cs3 = #[.int .i64 x3.f0, .int .i64 x3.f1, .int .i64 x3.f2] := by cases cs3; simpa [Value.cells] using e3
  clear hA0 hval0 hsz0 hsz
  obtain ⟨k, h⟩ := Pure.NetworkGenerated x0 x1 a2 x3 (by exact y0) (by exact w0) (by exact y1) (by exact w1) (by exact w2) (by exact w3)
  refine (railplanlaw11_NetworkGenerated.calls k A0 c0 x0 A1 c1 x1 a2 x3.f0 x3.f1 x3.f2 true W hr0 hc0 hr1 hc1 h).mono fun e W' ⟨he, bel⟩ => ?_
  subst he
  exact ⟨_, rfl, _, _, _, [], _, [], hW', trodAll_mk1 (shut_bool Try.underlying4 _), (trodAll_cons_mk (Below.trod laidOut (by kernel_rfl) (of_decide_eq_true (by kernel_rfl)) k0 bel lt0) (trodAll_cons_mk (Below.trod laidOut (by kernel_rfl) (of_decide_eq_true (by kernel_rfl)) k1 bel lt1) (trodAll_cons_mk (shut_int Try.underlying3 w2) (trodAll_cons_mk (Below.trod laidOut (by kernel_rfl) (of_decide_eq_true (by kernel_rfl)) k3 bel lt3) trodAll_mk0)))), rfl, bel.frame _, fun h => by cases h⟩
theorem over : Rows.networkGeneratedRow.holds Try.pinned (OpenSpec.ofChange Rows.networkGeneratedSpec) :=
  OpenClaim.holds_of_wide 8 Try.f8 rfl rfl rfl rfl rfl rfl rfl ⟨rfl, rfl, rfl, rfl, rfl⟩ rfl rfl rfl rfl rfl (by kernel_rfl) Try.func8 (by kernel_rfl)
    (of_decide_eq_true (by kernel_rfl)) (by unfold Func.isWrapper; first | (rw [if_pos (by decide +kernel)]; kernel_rfl) | (rw [if_neg (by decide +kernel)]; exact ⟨rfl, rfl⟩))
    (fun os started H enc _ => lifted os started H enc)
theorem proved : Rows.NetworkGeneratedSaid := over
#print axioms proved
end Go.Proofs.Ytapnkefhihgbbaa.networkGenerated
namespace Go.Proofs.Ytapnkefhihgbbaa
/-- The row, under a short name, for the claim. -/
theorem networkGenerated_holds : Rows.NetworkGeneratedSaid := networkGenerated.proved
end Go.Proofs.Ytapnkefhihgbbaa
