/- What calls of the Go functions below do, each under the premises that its theorem states. Laid by a program of the claimant, which drives the kit's print; some texts are written by hand. -/
import Derived.Test.YtdgdjbehddeepaaPAllx0
namespace Go.Proofs.Ytdgdjbehddeepaa.PAll
open Go.RowKit Go.Proofs.YtdgdjbehddeepaaW.PrintWords Go.Proofs.YtdgdjbehddeepaaW.PrintLast Go.Proofs.YtdgdjbehddeepaaW.PrintMore
attribute [local go_sem] max2_int min2_int max_two min_two max_three min_three max_four min_four   -- for this text's walks alone
set_option linter.unusedVariables false
set_option linter.unusedSimpArgs false

theorem cell_b2 {w W : World} (hb : Below w.heap.size w W) {a : Addr} {v : Value} (h : w.cell? a = some v) : W.cell? a = some v := (hb.cell (World.block_lt_of_cell? w _ h)).trans h
/-- Which of four are marked. -/
def tmMark (tr : List Int) (bs : List Bool) : List Bool := tr.foldl (fun b c => b.set c.toNat true) bs
def tmBlk (W : World) (g : Nat) (bs : List Bool) : Prop := W.heap[g]? = some (.cells (bs.map Value.bool).toArray 39 (0, 0)) ∧ bs.length = 4
def tmRun (v : List S28) (m : Nat → Int) : Nat → Int × List Bool
  | 0 => (0, [false, false, false, false])
  | i + 1 => if m i < (rd_T28 v i).f1 then ((tmRun v m i).1 + 1, tmMark (rd_T28 v i).f2 (tmRun v m i).2) else tmRun v m i
def tmCnt (bs : List Bool) : Nat → Int
  | 0 => 0
  | i + 1 => if bs.getD i false = true then tmCnt bs i + 1 else tmCnt bs i
theorem tmMark_len (tr : List Int) : ∀ bs : List Bool, (tmMark tr bs).length = bs.length := by
  induction tr with
  | nil => intro bs; rfl
  | cons c tr ih => intro bs; show (tmMark tr (bs.set c.toNat true)).length = _; rw [ih]; simp
theorem tmMark_snoc (tr : List Int) (k : Nat) (h : k < tr.length) (bs : List Bool) : tmMark (tr.take (k + 1)) bs = (tmMark (tr.take k) bs).set (tr[k]).toNat true := by
  unfold tmMark
  rw [List.take_succ_eq_append_getElem h, List.foldl_append]
  rfl
theorem tmRun_bd (v : List S28) (m : Nat → Int) : ∀ i : Nat, 0 ≤ (tmRun v m i).1 ∧ (tmRun v m i).1 ≤ i ∧ (tmRun v m i).2.length = 4
  | 0 => ⟨Int.le_refl _, Int.le_refl _, rfl⟩
  | i + 1 => by
    obtain ⟨h1, h2, h3⟩ := tmRun_bd v m i
    simp only [tmRun]
    split
    · exact ⟨by dsimp only; omega, by dsimp only; omega, by dsimp only; rw [tmMark_len]; exact h3⟩
    · exact ⟨h1, by omega, h3⟩
theorem tmCnt_bd (bs : List Bool) : ∀ i : Nat, 0 ≤ tmCnt bs i ∧ tmCnt bs i ≤ i
  | 0 => ⟨Int.le_refl _, Int.le_refl _⟩
  | i + 1 => by
    obtain ⟨h1, h2⟩ := tmCnt_bd bs i
    simp only [tmCnt]
    split
    · omega
    · omega
theorem tmBlk.set_ {W : World} {g : Nat} {bs : List Bool} (h : tmBlk W g bs) (c : Nat) : tmBlk (W.setCell ⟨g, c, none⟩ (.bool true)) g (bs.set c true) := by
  refine ⟨?_, by rw [List.length_set]; exact h.2⟩
  rw [blk_set h.1 c (.bool true)]
  simp [List.map_set]
theorem tmBlk.below {W W' : World} {g : Nat} {bs : List Bool} (h : tmBlk W g bs) (hb : Below W.heap.size W W') : tmBlk W' g bs := ⟨(hb.block g (blk_lt h.1)).trans h.1, h.2⟩
theorem tmBlk.cell {W : World} {g : Nat} {bs : List Bool} (h : tmBlk W g bs) (i : Nat) (hi : i < 4) : W.cell? ⟨g, i, none⟩ = some (.bool (bs.getD i false)) := by
  refine (blk_cell h.1 i).trans ?_
  have := h.2
  simp [List.getElem?_eq_getElem (show i < bs.length by omega), List.getD_eq_getElem?_getD]

end Go.Proofs.Ytdgdjbehddeepaa.PAll
