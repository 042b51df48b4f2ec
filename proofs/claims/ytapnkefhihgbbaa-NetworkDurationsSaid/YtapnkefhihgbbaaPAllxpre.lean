/- What calls of the Go functions below do, each under the premises that its theorem states. Laid by a program of the claimant, which drives the kit's print; some texts are written by hand. -/
import Derived.Test.YtapnkefhihgbbaaPAllx0
namespace Go.Proofs.Ytapnkefhihgbbaa.PAll
open Go.RowKit Go.Proofs.YtapnkefhihgbbaaW.PrintWords Go.Proofs.YtapnkefhihgbbaaW.PrintLast Go.Proofs.YtapnkefhihgbbaaW.PrintMore
attribute [local go_sem] max2_int min2_int max_two min_two max_three min_three max_four min_four   -- for this text's walks alone
set_option linter.unusedVariables false
set_option linter.unusedSimpArgs false

/-! ### helpers of this session -/
theorem bcell_ {W w1 : World} (hb : Below W.heap.size W w1) : (∀ b o, b < W.heap.size → w1.cell? ⟨b, o, none⟩ = W.cell? ⟨b, o, none⟩) ∧ (∀ b o, b < W.heap.size → w1.frozen? ⟨b, o, none⟩ = W.frozen? ⟨b, o, none⟩) :=
  ⟨fun b o h => hb.cell (p := ⟨b, o, none⟩) h, fun b o h => hb.frozen (p := ⟨b, o, none⟩) h⟩
theorem bcell2_ {W w1 : World} {A : Nat} (hb : Below W.heap.size W w1) (hA : A ≤ W.heap.size) : (∀ b o, b < A → w1.cell? ⟨b, o, none⟩ = W.cell? ⟨b, o, none⟩) := fun b o h => hb.cell (p := ⟨b, o, none⟩) (Nat.lt_of_lt_of_le h hA)
/-- A block that holds elements is read as their list. -/
theorem C_of_block {α : Type} {d : Kd α} {W : World} {b t : Nat} {cs : Array Value} {xs : List α} (h : W.heap[b]? = some (.cells cs t (0, 0))) (hr : Reps (d.K W) d.sz xs cs.toList) (hn : xs.length ≤ 9223372036854775807) : Kd.C d W (some ⟨b, 0, none⟩) xs.length xs := by
  refine ⟨rfl, hn, fun _ => ⟨_, rfl, fun j p hj => ⟨(cs.toList.drop (j * d.sz)).take d.sz, d.K_len (hr.2 j p hj), hr.2 j p hj, fun i u hu => ?_⟩⟩⟩
  rw [add_plain]
  refine (blk_cell h _).trans ?_
  rw [List.getElem?_take] at hu
  split at hu
  · rw [List.getElem?_drop, Array.getElem?_toList] at hu
    exact hu
  · cases hu
theorem C_ints {W : World} {b t : Nat} {cs : Array Value} {xs : List Int} (h : W.heap[b]? = some (.cells cs t (0, 0))) (hr : cs.toList = xs.map (Value.int .i64)) (hn : xs.length ≤ 9223372036854775807) : Kd.C (Kd.int .i64) W (some ⟨b, 0, none⟩) xs.length xs := by
  refine C_of_block h ?_ hn
  rw [hr]
  refine ⟨by simp [Kd.int, Kd.scalar], fun j p hj => ?_⟩
  show _ = [_]
  have hl := (List.getElem?_eq_some_iff.1 hj)
  obtain ⟨hl, rfl⟩ := hl
  simp only [Kd.int, Kd.scalar, Nat.mul_one]
  rw [List.drop_eq_getElem_cons (by simpa using hl)]
  simp

end Go.Proofs.Ytapnkefhihgbbaa.PAll
