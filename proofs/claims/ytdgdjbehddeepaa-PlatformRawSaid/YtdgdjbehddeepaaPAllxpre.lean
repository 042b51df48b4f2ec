/- What calls of the Go functions below do, each under the premises that its theorem states. Laid by a program of the claimant, which drives the kit's print; some texts are written by hand. -/
import Derived.Test.YtdgdjbehddeepaaPAllx0
namespace Go.Proofs.Ytdgdjbehddeepaa.PAll
open Go.RowKit Go.Proofs.YtdgdjbehddeepaaW.PrintWords Go.Proofs.YtdgdjbehddeepaaW.PrintLast Go.Proofs.YtdgdjbehddeepaaW.PrintMore
attribute [local go_sem] max2_int min2_int max_two min_two max_three min_three max_four min_four   -- for this text's walks alone
set_option linter.unusedVariables false
set_option linter.unusedSimpArgs false

/-! ### helpers of this session -/
theorem bcell_ {W w1 : World} (hb : Below W.heap.size W w1) : (∀ b o, b < W.heap.size → w1.cell? ⟨b, o, none⟩ = W.cell? ⟨b, o, none⟩) ∧ (∀ b o, b < W.heap.size → w1.frozen? ⟨b, o, none⟩ = W.frozen? ⟨b, o, none⟩) :=
  ⟨fun b o h => hb.cell (p := ⟨b, o, none⟩) h, fun b o h => hb.frozen (p := ⟨b, o, none⟩) h⟩
theorem bcell2_ {W w1 : World} {A : Nat} (hb : Below W.heap.size W w1) (hA : A ≤ W.heap.size) : (∀ b o, b < A → w1.cell? ⟨b, o, none⟩ = W.cell? ⟨b, o, none⟩) := fun b o h => hb.cell (p := ⟨b, o, none⟩) (Nat.lt_of_lt_of_le h hA)
/-- A block that holds elements is read as their list. -/
theorem C_of_block {α : Type} {d : Kd α} {W : World} {b t : Nat} {cs : Array Value} {xs : List α} (h : W.heap[b]? = some (.cells cs t (0, 0))) (hr : Reps (d.K W) d.sz xs cs.toList) (hn : xs.length ≤ 9223372036854775807) : Kd.C d W (some ⟨b, 0, none⟩) xs.length xs := by
  refine ⟨rfl, hn, fun _ => ⟨_, rfl, fun j p hj => ⟨(cs.toList.drop (j * d.sz)).take d.sz, d.K_len (hr.2 j p hj), hr.2 j p hj, fun i u hu => ?_⟩⟩⟩
  rw [add_plain]
  refine (blk_cell h _).trans ?_
  rw [List.getElem?_take] at hu
  split at hu
  · rw [List.getElem?_drop, Array.getElem?_toList] at hu
    exact hu
  · cases hu
theorem C_ints {W : World} {b t : Nat} {cs : Array Value} {xs : List Int} (h : W.heap[b]? = some (.cells cs t (0, 0))) (hr : cs.toList = xs.map (Value.int .i64)) (hn : xs.length ≤ 9223372036854775807) : Kd.C (Kd.int .i64) W (some ⟨b, 0, none⟩) xs.length xs := by
  refine C_of_block h ?_ hn
  rw [hr]
  refine ⟨by simp [Kd.int, Kd.scalar], fun j p hj => ?_⟩
  show _ = [_]
  have hl := (List.getElem?_eq_some_iff.1 hj)
  obtain ⟨hl, rfl⟩ := hl
  simp only [Kd.int, Kd.scalar, Nat.mul_one]
  rw [List.drop_eq_getElem_cons (by simpa using hl)]
  simp
/-! #### arguments that are read as data -/
/-- What is read as data of type t is of kind d. -/
def RK {α : Type} (P : Program) (W : World) (t : TypeId) (d : Kd α) (wf : α → Prop) : Prop :=
  ∀ (H : Type) (enc : TypeId × Value → H) (fuel : Nat) (cs : List Value) (x : DataW H × List MemPlace), DataW.trod enc P W 0 (fun _ => true) true fuel t cs = some x → ∃ a, d.K W a cs ∧ wf a
theorem RK.int {P : Program} {W : World} {t : TypeId} (k : IntKind) (ht : P.underlying t = some (.int k)) : RK P W t (Kd.int k) (fun n => (Lit.int k n).wf = true) := fun H enc fuel cs x h => by
  obtain ⟨n, rfl, _, hw⟩ := DataW.trod_int ht h
  exact ⟨n, rfl, hw⟩
theorem RK.bool {P : Program} {W : World} {t : TypeId} (ht : P.underlying t = some .bool) : RK P W t Kd.bool (fun _ => True) := fun H enc fuel cs x h => by
  obtain ⟨n, rfl, _⟩ := DataW.trod_bool ht h
  exact ⟨n, rfl, trivial⟩
theorem RK.string {P : Program} {W : World} {t : TypeId} (ht : P.underlying t = some .string) : RK P W t Kd.string (fun s => s.size ≤ maxLen) := fun H enc fuel cs x h => by
  obtain ⟨n, rfl, _, hs⟩ := DataW.trod_string ht h
  exact ⟨n, rfl, hs⟩
theorem rows_read {α : Type} {P : Program} {W : World} {d : Kd α} {wf : α → Prop} (a : Addr) (len : Nat) (h : ∀ i, i < len → ∃ x cs', W.cells? 0 (a.add (i * d.sz)) d.sz = some cs' ∧ d.K W x cs' ∧ wf x) :
    ∀ k, k ≤ len → ∃ xs : List α, xs.length = k ∧ (∀ x ∈ xs, wf x) ∧ ∀ i x, xs[i]? = some x → ∃ cs', W.cells? 0 (a.add (i * d.sz)) d.sz = some cs' ∧ d.K W x cs'
  | 0, _ => ⟨[], rfl, fun _ hx => absurd hx (by simp), fun i x hx => by simp at hx⟩
  | k + 1, hk => by
    obtain ⟨xs, hl, hw, hr⟩ := rows_read (P := P) (wf := wf) a len h k (by omega)
    obtain ⟨x, cs', hc, hK, hx⟩ := h k (by omega)
    refine ⟨xs ++ [x], by simp [hl], fun y hy => ?_, fun i y hy => ?_⟩
    · rcases List.mem_append.1 hy with hy | hy
      · exact hw y hy
      · rw [List.mem_singleton.1 hy]; exact hx
    · by_cases hi : i < xs.length
      · rw [List.getElem?_append_left hi] at hy
        exact hr i y hy
      · have hi' : i = xs.length := by
          have := (List.getElem?_eq_some_iff.1 hy).1
          simp at this; omega
        subst hi'
        have : x = y := by simpa using hy
        subst this
        rw [hl]
        exact ⟨cs', hc, hK⟩
theorem RK.slice {α : Type} {P : Program} {W : World} {t e : TypeId} {d : Kd α} {wf : α → Prop} (ht : P.underlying t = some (.slice e)) (hC : P.cellsOf e = d.sz) (hE : RK P W e d wf) : RK P W t (Kd.slice e d) (fun xs => ∀ x ∈ xs, wf x) := fun H enc fuel cs x h => by
  rcases Go.Deep.open_slice ht h with ⟨rfl, _⟩ | ⟨a, len, cap, m, n, D, Pl, rfl, _, hl, hm, hmm, _, hi⟩
  · exact ⟨[], ⟨none, 0, rfl, Nat.le_refl _, Kd.C_nil _ _⟩, fun x hx => absurd hx (by simp)⟩
  · simp only [if_true] at hmm
    obtain ⟨xs, hxl, hw, hr⟩ := rows_read (P := P) (d := d) (wf := wf) a len (fun i hil => by
      obtain ⟨cs', hc, ht'⟩ := hi i (by omega)
      obtain ⟨x, hK, hx⟩ := hE H enc n cs' _ ht'
      rw [hC] at hc
      exact ⟨x, cs', hc, hK, hx⟩) len (Nat.le_refl _)
    unfold maxLen at hm
    refine ⟨xs, ⟨some a, cap, by rw [hxl], by omega, rfl, by omega, fun _ => ⟨a, rfl, fun j p hj => ?_⟩⟩, hw⟩
    obtain ⟨cs', hc, hK⟩ := hr j p hj
    obtain ⟨_, hcl, hat⟩ := World.cells?_some hc
    refine ⟨cs', hcl, hK, fun i u hu => ?_⟩
    have hil : i < d.sz := by have := (List.getElem?_eq_some_iff.1 hu).1; omega
    have h1 := hat i hil
    rw [Go.Deep.add_add] at h1
    rw [h1]; exact hu

end Go.Proofs.Ytdgdjbehddeepaa.PAll
