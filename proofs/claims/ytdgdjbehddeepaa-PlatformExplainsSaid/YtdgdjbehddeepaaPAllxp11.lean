/- What calls of the Go functions below do, each under the premises that its theorem states. Laid by a program of the claimant, which drives the kit's print; some texts are written by hand. -/
import Derived.Test.YtdgdjbehddeepaaPAllx0
import Derived.Test.YtdgdjbehddeepaaPAllxf18
namespace Go.Proofs.Ytdgdjbehddeepaa.PAll
open Go.RowKit Go.Proofs.YtdgdjbehddeepaaW.PrintWords Go.Proofs.YtdgdjbehddeepaaW.PrintLast Go.Proofs.YtdgdjbehddeepaaW.PrintMore
attribute [local go_sem] max2_int min2_int max_two min_two max_three min_three max_four min_four   -- for this text's walks alone
set_option linter.unusedVariables false
set_option linter.unusedSimpArgs false

/-- The state of an assigner: its block. -/
def St64 (W : World) (g : Nat) (t : Int) (Av : Option Addr) (n cv : Nat) (bu us : Int) (ov : Bool) (vc : Value) : Prop := W.heap[g]? = some (.cells #[.int .i64 t, .slice Av n cv, .int .i64 bu, .int .i64 us, .bool ov, vc] 64 (0, 0))
section
variable {W W' : World} {g : Nat} {t : Int} {Av : Option Addr} {n cv : Nat} {bu us : Int} {ov : Bool} {vc : Value}
theorem St64.cells (h : St64 W g t Av n cv bu us ov vc) : W.cell? ⟨g, 0, none⟩ = some (.int .i64 t) ∧ W.cell? ⟨g, 1, none⟩ = some (.slice Av n cv) ∧ W.cell? ⟨g, 2, none⟩ = some (.int .i64 bu) ∧ W.cell? ⟨g, 3, none⟩ = some (.int .i64 us) ∧ W.cell? ⟨g, 4, none⟩ = some (.bool ov) ∧ W.cell? ⟨g, 5, none⟩ = some vc ∧ W.frozen? ⟨g, 3, none⟩ = false ∧ W.frozen? ⟨g, 4, none⟩ = false ∧ W.frozen? ⟨g, 5, none⟩ = false :=
  ⟨(blk_cell h 0).trans rfl, (blk_cell h 1).trans rfl, (blk_cell h 2).trans rfl, (blk_cell h 3).trans rfl, (blk_cell h 4).trans rfl, (blk_cell h 5).trans rfl, blk_frozen h 3, blk_frozen h 4, blk_frozen h 5⟩
theorem St64.us_ (h : St64 W g t Av n cv bu us ov vc) (x : Int) : St64 (W.setCell ⟨g, 3, none⟩ (.int .i64 x)) g t Av n cv bu x ov vc := by simpa [St64] using blk_set h 3 (.int .i64 x)
theorem St64.ov_ (h : St64 W g t Av n cv bu us ov vc) (x : Bool) : St64 (W.setCell ⟨g, 4, none⟩ (.bool x)) g t Av n cv bu us x vc := by simpa [St64] using blk_set h 4 (.bool x)
theorem St64.ch_ (h : St64 W g t Av n cv bu us ov vc) (x : Value) : St64 (W.setCell ⟨g, 5, none⟩ x) g t Av n cv bu us ov x := by simpa [St64] using blk_set h 5 x
theorem St64.below (h : St64 W g t Av n cv bu us ov vc) (hb : Below W.heap.size W W') : St64 W' g t Av n cv bu us ov vc := (hb.block g (blk_lt h)).trans h
theorem St64.grown (h : St64 W g t Av n cv bu us ov vc) (hb : W.grownBy W' none) : St64 W' g t Av n cv bu us ov vc := (hb.block g (blk_lt h) (by simp)).trans h
end
/-- A choice that is read: its block is not the state's. -/
def ChC (W : World) (g : Nat) (vc : Value) (ch : List Int) : Prop := ∃ A c, vc = .slice A ch.length c ∧ ch.length ≤ c ∧ (A = none → ch.length = 0) ∧ (∀ ad, A = some ad → 0 < ch.length → ad.block ≠ g) ∧ Kd.C (Kd.int .i64) W A ch.length ch
theorem ChC.keep {W W' : World} {g : Nat} {vc : Value} {ch : List Int} (h : ChC W g vc ch) (hk : KeepBut W W' g none) : ChC W' g vc ch := by
  obtain ⟨A, c, h1, h2, h3, h4, h5⟩ := h
  exact ⟨A, c, h1, h2, h3, h4, Kd.C_of_reads (h1 := fun _ => rfl) ((Kd.reads_of_C (d := (0 : Int)) h5).keep hk h4)⟩
theorem ChC.below {W W' : World} {g : Nat} {vc : Value} {ch : List Int} (h : ChC W g vc ch) (hb : Below W.heap.size W W') : ChC W' g vc ch := h.keep (KeepBut.of_below hb g none)
theorem ChC.grown {W W' : World} {g : Nat} {vc : Value} {ch : List Int} (h : ChC W g vc ch) (hb : W.grownBy W' none) : ChC W' g vc ch := h.keep (KeepBut.of_grown hb g)
theorem ChC.of_R {W : World} {g base : Nat} {vc : Value} {ch : List Int} (h : Kd.R (Kd.int .i64) 3 W base (fun k => k ≠ g) vc ch) : ChC W g vc ch := by
  obtain ⟨A, c, rfl, hl, hc⟩ := Kd.R_reads h
  refine ⟨A, c, rfl, hl, ?_, ?_, hc⟩
  · rintro rfl
    rcases Nat.eq_zero_or_pos ch.length with h0 | h0
    · exact h0
    · obtain ⟨ad, h, _⟩ := hc.2.2 h0
      cases h
  · rintro ad rfl _
    exact h.1 _ rfl
theorem ChC.take {W : World} {g : Nat} {A : Option Addr} {c : Nat} {ch : List Int} (h : ChC W g (.slice A ch.length c) ch) {i : Nat} (hi : i ≤ ch.length) : ChC W g (.slice A i i) (ch.take i) := by
  obtain ⟨A', c', h1, h2, h3, h4, h5⟩ := h
  injection h1 with h1 _ _
  subst h1
  have hl : (ch.take i).length = i := by rw [List.length_take]; omega
  refine ⟨A, i, by rw [hl], by rw [hl]; exact Nat.le_refl _, ?_, ?_, Kd.C_take h5 hi⟩
  · intro e
    have := h3 e
    rw [hl]; omega
  · intro ad e hp
    exact h4 ad e (by rw [hl] at hp; omega)
/-- append onto a full slice that is only read. -/
theorem app_full {P : Program} (t ty e : TypeId) (bytes : Nat) (ht : P.underlying t = some (.slice e)) (hinfo : (P.info? e).map (fun i => (i.zero, i.size, i.bytes)) = some (some (.int .i64 0), 1, bytes))
    (W : World) (g : Nat) (A : Option Addr) (ch : List Int) (x : Int) (hC : ChC W g (.slice A ch.length ch.length) ch) (hl : (ch.length + 1) * bytes ≤ 140737488355328) (hb0 : 0 < bytes) :
    ∃ v' w', (Builtin.append_ #[t, t] ty #[.slice A ch.length ch.length, .slice (some ⟨W.heap.size, 0, none⟩) 1 1]).run P (W.alloc (.cells #[.int .i64 x] e)) = .ok v' w' ∧ (∀ base, base ≤ W.heap.size → g < W.heap.size → Kd.R (Kd.int .i64) e w' base (fun k => k ≠ g) v' (ch ++ [x])) ∧ W.grownBy w' none := by
  obtain ⟨i, hi, hz, hs, hb⟩ := info_parts hinfo
  obtain ⟨A', c', h1, h2, h3, h4, h5⟩ := hC
  injection h1 with h1 _ _
  subst h1
  have hn : ∀ j u, ([.int .i64 x] : List Value)[j]? = some u → (W.alloc (.cells #[.int .i64 x] e)).cell? ((⟨W.heap.size, 0, none⟩ : Addr).add j) = some u := by
    intro j u hj
    rw [add_plain]
    exact (blk_cell (blk_new W _) j).trans (by simpa using hj)
  have hm : ch.length + 1 ≤ maxLen := by have := h5.2.1; unfold maxLen; have : (ch.length + 1) * 1 ≤ (ch.length + 1) * bytes := Nat.mul_le_mul_left _ hb0; omega
  have hfin : ∀ v' w', w'.ownsRow (W.heap.size + 1) e 1 v' (ch.length + 1) (ch.map (Value.int .i64) ++ [.int .i64 x]) → (W.alloc (.cells #[.int .i64 x] e)).grownBy w' none → (∀ base, base ≤ W.heap.size → g < W.heap.size → Kd.R (Kd.int .i64) e w' base (fun k => k ≠ g) v' (ch ++ [x])) ∧ W.grownBy w' none := by
    intro v' w' ho hg
    refine ⟨fun base hb hgl => ?_, ?_⟩
    · refine Kd.R_of_own ?_ ?_
      · rw [List.length_append, List.length_singleton]
        have : encs (Value.int .i64) (ch ++ [x]) = ch.map (Value.int .i64) ++ [.int .i64 x] := by simp [encs]
        rw [this]
        exact own_weaken ho (by omega)
      · intro k hk
        have := own_base ho k hk
        omega
    · exact ⟨hg.os, hg.tape, hg.output, Nat.le_trans (by simp) hg.size, fun k hk hr => (hg.block k (by simp; omega) hr).trans (heap_alloc_old W _ hk)⟩
  cases A with
  | some b =>
    obtain ⟨v', w', hrun, ho, hg⟩ := run_append_arg_grows (P := P) (W.alloc (.cells #[.int .i64 x] e)) t ty e i (.int .i64 0) 1 bytes ht hi hz hs hb rfl (by decide) b ch.length ch.length (ch.map (Value.int .i64)) (by simp) (fun j u hj => by
      rw [List.getElem?_map, Option.map_eq_some_iff] at hj
      obtain ⟨y, hy, rfl⟩ := hj
      have h6 := Kd.C_alloc h5 (.cells #[.int .i64 x] e)
      have hlt := (List.getElem?_eq_some_iff.1 hy).1
      obtain ⟨ad, e1, hc⟩ := h6.2.2 (by omega)
      cases e1
      obtain ⟨c, _, hK, hcell⟩ := hc j y hy
      have hK' : c = [.int .i64 y] := hK
      subst hK'
      have := hcell 0 _ rfl
      simpa [Kd.int, Kd.scalar] using this) ⟨W.heap.size, 0, none⟩ 1 1 [.int .i64 x] rfl hn (by omega) hm hl
    obtain ⟨r1, r2⟩ := hfin v' w' (by simpa using ho) hg
    exact ⟨v', w', hrun, r1, r2⟩
  | none =>
    have h0 := h3 rfl
    have e0 : ch = [] := List.length_eq_zero_iff.1 h0
    subst e0
    obtain ⟨v', w', hrun, ho, hg, _⟩ := run_append_own (P := P) (W.alloc (.cells #[.int .i64 x] e)) (W.alloc (.cells #[.int .i64 x] e)).heap.size t ty e i (.int .i64 0) 1 bytes ht hi hz hs hb rfl (by decide) (.slice none 0 0) 0 [] (World.ownsRow_nil _ _ e 1) ⟨W.heap.size, 0, none⟩ 1 1 [.int .i64 x] rfl hn (by intro u hu; rw [List.mem_singleton.1 hu]; rfl) (by simpa using hm) (by simpa using hl) (Nat.le_refl _)
    obtain ⟨r1, r2⟩ := hfin v' w' (by simpa using ho) (by simpa [Value.ownBlock] using hg)
    exact ⟨v', w', hrun, r1, r2⟩
mutual
def vis_f : Nat → Int → List S28 → Int → Int → Bool → List Int → Option (Bool × Int × Bool × List Int)
  | 0, _, _, _, _, _, _ => none
  | k + 1, t, v, bu, us, ov, ch => if ch.length = v.length then some (true, us, ov, ch) else if ch.length < v.length then vis_l k t v bu us ov ch.length ch 0 else none
def vis_l : Nat → Int → List S28 → Int → Int → Bool → Nat → List Int → Int → Option (Bool × Int × Bool × List Int)
  | 0, _, _, _, _, _, _, _, _ => none
  | k + 1, t, v, bu, us, ov, i, ch, x =>
    if x < ((rd_T28 v i).f2.length : Int) then
      (if bu < wrap64 (us + 1) then some (false, wrap64 (us + 1), true, ch) else
        if 0 ≤ x then
          (if i ≤ ch.length then (if i < 17592186044415 then
            (railplanref19_Proper.f k t (v.take (i + 1)) (ch.take i ++ [rd (rd_T28 v i).f2 x])).bind fun b =>
              if b = true then (vis_f k t v bu (wrap64 (us + 1)) ov (ch.take i ++ [rd (rd_T28 v i).f2 x])).bind fun o =>
                if o.1 = true then some o else if o.2.2.1 = true then some o else vis_l k t v bu o.2.1 o.2.2.1 i o.2.2.2 (wrap64 (x + 1))
              else if ov = true then some (false, wrap64 (us + 1), ov, ch.take i ++ [rd (rd_T28 v i).f2 x]) else vis_l k t v bu (wrap64 (us + 1)) ov i (ch.take i ++ [rd (rd_T28 v i).f2 x]) (wrap64 (x + 1)) else none) else none) else none)
    else if i ≤ ch.length then some (false, us, ov, ch.take i) else none
end


end Go.Proofs.Ytdgdjbehddeepaa.PAll
