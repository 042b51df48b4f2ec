/- What calls of the Go functions below do, each under the premises that its theorem states. Laid by a program of the claimant, which drives the kit's print; some texts are written by hand. -/
import Derived.Test.YtdgdjbehddeepaaPAllx0
namespace Go.Proofs.Ytdgdjbehddeepaa.PAll
open Go.RowKit Go.Proofs.YtdgdjbehddeepaaW.PrintWords Go.Proofs.YtdgdjbehddeepaaW.PrintLast Go.Proofs.YtdgdjbehddeepaaW.PrintMore
attribute [local go_sem] max2_int min2_int max_two min_two max_three min_three max_four min_four   -- for this text's walks alone
set_option linter.unusedVariables false
set_option linter.unusedSimpArgs false

/-! ### helpers of this session -/
theorem bcell_ {W w1 : World} (hb : Below W.heap.size W w1) : (∀ b o, b < W.heap.size → w1.cell? ⟨b, o, none⟩ = W.cell? ⟨b, o, none⟩) ∧ (∀ b o, b < W.heap.size → w1.frozen? ⟨b, o, none⟩ = W.frozen? ⟨b, o, none⟩) :=
  ⟨fun b o h => hb.cell (p := ⟨b, o, none⟩) h, fun b o h => hb.frozen (p := ⟨b, o, none⟩) h⟩
theorem bcell2_ {W w1 : World} {A : Nat} (hb : Below W.heap.size W w1) (hA : A ≤ W.heap.size) : (∀ b o, b < A → w1.cell? ⟨b, o, none⟩ = W.cell? ⟨b, o, none⟩) := fun b o h => hb.cell (p := ⟨b, o, none⟩) (Nat.lt_of_lt_of_le h hA)
/-- A block that holds elements is read as their list. -/
theorem C_of_block {α : Type} {d : Kd α} {W : World} {b t : Nat} {cs : Array Value} {xs : List α} (h : W.heap[b]? = some (.cells cs t (0, 0))) (hr : Reps (d.K W) d.sz xs cs.toList) (hn : xs.length ≤ 9223372036854775807) : Kd.C d W (some ⟨b, 0, none⟩) xs.length xs := by
  refine ⟨rfl, hn, fun _ => ⟨_, rfl, fun j p hj => ⟨(cs.toList.drop (j * d.sz)).take d.sz, d.K_len (hr.2 j p hj), hr.2 j p hj, fun i u hu => ?_⟩⟩⟩
  rw [add_plain]
  refine (blk_cell h _).trans ?_
  rw [List.getElem?_take] at hu
  split at hu
  · rw [List.getElem?_drop, Array.getElem?_toList] at hu
    exact hu
  · cases hu
theorem C_ints {W : World} {b t : Nat} {cs : Array Value} {xs : List Int} (h : W.heap[b]? = some (.cells cs t (0, 0))) (hr : cs.toList = xs.map (Value.int .i64)) (hn : xs.length ≤ 9223372036854775807) : Kd.C (Kd.int .i64) W (some ⟨b, 0, none⟩) xs.length xs := by
  refine C_of_block h ?_ hn
  rw [hr]
  refine ⟨by simp [Kd.int, Kd.scalar], fun j p hj => ?_⟩
  show _ = [_]
  have hl := (List.getElem?_eq_some_iff.1 hj)
  obtain ⟨hl, rfl⟩ := hl
  simp only [Kd.int, Kd.scalar, Nat.mul_one]
  rw [List.drop_eq_getElem_cons (by simpa using hl)]
  simp
/-! #### arguments that are read as data -/
/-- What is read as data of type t is of kind d. -/
def RK {α : Type} (P : Program) (W : World) (t : TypeId) (d : Kd α) (wf : α → Prop) : Prop :=
  ∀ (H : Type) (enc : TypeId × Value → H) (fuel : Nat) (cs : List Value) (x : DataW H × List MemPlace), DataW.trod enc P W 0 (fun _ => true) true fuel t cs = some x → ∃ a, d.K W a cs ∧ wf a
theorem RK.int {P : Program} {W : World} {t : TypeId} (k : IntKind) (ht : P.underlying t = some (.int k)) : RK P W t (Kd.int k) (fun n => (Lit.int k n).wf = true) := fun H enc fuel cs x h => by
  obtain ⟨n, rfl, _, hw⟩ := DataW.trod_int ht h
  exact ⟨n, rfl, hw⟩
theorem RK.bool {P : Program} {W : World} {t : TypeId} (ht : P.underlying t = some .bool) : RK P W t Kd.bool (fun _ => True) := fun H enc fuel cs x h => by
  obtain ⟨n, rfl, _⟩ := DataW.trod_bool ht h
  exact ⟨n, rfl, trivial⟩
theorem RK.string {P : Program} {W : World} {t : TypeId} (ht : P.underlying t = some .string) : RK P W t Kd.string (fun s => s.size ≤ maxLen) := fun H enc fuel cs x h => by
  obtain ⟨n, rfl, _, hs⟩ := DataW.trod_string ht h
  exact ⟨n, rfl, hs⟩
theorem rows_read {α : Type} {P : Program} {W : World} {d : Kd α} {wf : α → Prop} (a : Addr) (len : Nat) (h : ∀ i, i < len → ∃ x cs', W.cells? 0 (a.add (i * d.sz)) d.sz = some cs' ∧ d.K W x cs' ∧ wf x) :
    ∀ k, k ≤ len → ∃ xs : List α, xs.length = k ∧ (∀ x ∈ xs, wf x) ∧ ∀ i x, xs[i]? = some x → ∃ cs', W.cells? 0 (a.add (i * d.sz)) d.sz = some cs' ∧ d.K W x cs'
  | 0, _ => ⟨[], rfl, fun _ hx => absurd hx (by simp), fun i x hx => by simp at hx⟩
  | k + 1, hk => by
    obtain ⟨xs, hl, hw, hr⟩ := rows_read (P := P) (wf := wf) a len h k (by omega)
    obtain ⟨x, cs', hc, hK, hx⟩ := h k (by omega)
    refine ⟨xs ++ [x], by simp [hl], fun y hy => ?_, fun i y hy => ?_⟩
    · rcases List.mem_append.1 hy with hy | hy
      · exact hw y hy
      · rw [List.mem_singleton.1 hy]; exact hx
    · by_cases hi : i < xs.length
      · rw [List.getElem?_append_left hi] at hy
        exact hr i y hy
      · have hi' : i = xs.length := by
          have := (List.getElem?_eq_some_iff.1 hy).1
          simp at this; omega
        subst hi'
        have : x = y := by simpa using hy
        subst this
        rw [hl]
        exact ⟨cs', hc, hK⟩
theorem RK.slice {α : Type} {P : Program} {W : World} {t e : TypeId} {d : Kd α} {wf : α → Prop} (ht : P.underlying t = some (.slice e)) (hC : P.cellsOf e = d.sz) (hE : RK P W e d wf) : RK P W t (Kd.slice e d) (fun xs => ∀ x ∈ xs, wf x) := fun H enc fuel cs x h => by
  rcases Go.Deep.open_slice ht h with ⟨rfl, _⟩ | ⟨a, len, cap, m, n, D, Pl, rfl, _, hl, hm, hmm, _, hi⟩
  · exact ⟨[], ⟨none, 0, rfl, Nat.le_refl _, Kd.C_nil _ _⟩, fun x hx => absurd hx (by simp)⟩
  · simp only [if_true] at hmm
    obtain ⟨xs, hxl, hw, hr⟩ := rows_read (P := P) (d := d) (wf := wf) a len (fun i hil => by
      obtain ⟨cs', hc, ht'⟩ := hi i (by omega)
      obtain ⟨x, hK, hx⟩ := hE H enc n cs' _ ht'
      rw [hC] at hc
      exact ⟨x, cs', hc, hK, hx⟩) len (Nat.le_refl _)
    unfold maxLen at hm
    refine ⟨xs, ⟨some a, cap, by rw [hxl], by omega, rfl, by omega, fun _ => ⟨a, rfl, fun j p hj => ?_⟩⟩, hw⟩
    obtain ⟨cs', hc, hK⟩ := hr j p hj
    obtain ⟨_, hcl, hat⟩ := World.cells?_some hc
    refine ⟨cs', hcl, hK, fun i u hu => ?_⟩
    have hil : i < d.sz := by have := (List.getElem?_eq_some_iff.1 hu).1; omega
    have h1 := hat i hil
    rw [Go.Deep.add_add] at h1
    rw [h1]; exact hu

/-! ### railplankeep_Pick: function 10 -/
def railplankeep_Pick.f (a0 : Int) (a1 : Int) : Option (Int) := if (IntKind.u64.wrap (a1)) = 0 then (none) else (some (wrap64 (Int.tmod (IntKind.u64.wrap (a0)) (IntKind.u64.wrap (a1)))))
set_option maxHeartbeats 8000000 in
set_option maxRecDepth 100000 in
theorem railplankeep_Pick.calls (a0 : Int) (a1 : Int) (r : Int) (w : World) (h : railplankeep_Pick.f a0 a1 = some r) :
    Calls Try.prog 10 #[.int .i64 a0, .int .i64 a1] w fun e w' => e = .returned (.int .i64 r) ∧ Drawn0 w w' := by
  have H : (if (IntKind.u64.wrap (a1)) = 0 then (none) else (some (wrap64 (Int.tmod (IntKind.u64.wrap (a0)) (IntKind.u64.wrap (a1)))))) = some r := h
  clear h
  by_cases c3 : (IntKind.u64.wrap (a1)) = 0
  · rw [if_pos c3] at H
    exact absurd H (by simp)
  · rw [if_neg c3] at H
    have c3b0 : ((IntKind.u64.wrap (a1)) == 0) = false := beq_eq_false_iff_ne.mpr c3
    have c3b1 : ((IntKind.u64.wrap (a1)) != 0) = true := bne_iff_ne.mpr c3
    obtain rfl := Option.some.inj H
    go_enter Try.func10, Try.ntmps10
    go_wp2
    go_ret
    exact ⟨by first | rfl | (simp; done) | (simp [*]; done), by repeat (first | exact Drawn0.refl _ | apply Drawn0.step)⟩

/-! ### railplanlaw20_two: function 19 -/
def railplanlaw20_two.f  : Option ((List (S28))) := some (([(⟨8, 4, (([1, 2] : List Int))⟩ : S28), (⟨0, 3, (([1] : List Int))⟩ : S28)] : List (S28)))
set_option maxHeartbeats 8000000 in
set_option maxRecDepth 100000 in
theorem railplanlaw20_two.calls  (r : List (S28)) (w : World) (h : railplanlaw20_two.f  = some r) :
    Calls Try.prog 19 #[] w fun e w' => ∃ v0_ : Value, e = .returned (v0_) ∧ Kd.N k28 28 w' w.heap.size (fun k_ => (w.heap.size ≤ k_)) v0_ r ∧ Below w.heap.size w w' := by
  have hu28 := Try.underlying28
  have HB := Aside0.mk (Below.refl w.heap.size w)
  have H : (some (([(⟨8, 4, (([1, 2] : List Int))⟩ : S28), (⟨0, 3, (([1] : List Int))⟩ : S28)] : List (S28)))) = some r := h
  clear h
  obtain ⟨y101, hy101⟩ : ∃ y_ : List Int, y_ = (([1, 2] : List Int)) := ⟨_, rfl⟩
  replace H : (some (([(⟨8, 4, y101⟩ : S28), (⟨0, 3, (([1] : List Int))⟩ : S28)] : List (S28)))) = some r := by first | (rw [hy101]; with_reducible exact H) | (have H2_ := (Option.bind_some _ _).symm.trans H; rw [hy101]; with_reducible exact H2_) | (have H2_ := (Option.bind_some _ _).symm.trans H; with_reducible exact H2_) | with_reducible exact H | (rw [hy101]; exact H) | exact H
  have Ny101 := Aside0.mk hy101
  clear hy101
  obtain ⟨y104, hy104⟩ : ∃ y_ : List Int, y_ = (([1] : List Int)) := ⟨_, rfl⟩
  replace H : (some (([(⟨8, 4, y101⟩ : S28), (⟨0, 3, y104⟩ : S28)] : List (S28)))) = some r := by first | (rw [hy104]; with_reducible exact H) | (have H2_ := (Option.bind_some _ _).symm.trans H; rw [hy104]; with_reducible exact H2_) | (have H2_ := (Option.bind_some _ _).symm.trans H; with_reducible exact H2_) | with_reducible exact H | (rw [hy104]; exact H) | exact H
  have Ny104 := Aside0.mk hy104
  clear hy104
  obtain ⟨y107, hy107⟩ : ∃ y_ : List (S28), y_ = (([(⟨8, 4, y101⟩ : S28), (⟨0, 3, y104⟩ : S28)] : List (S28))) := ⟨_, rfl⟩
  replace H : (some y107) = some r := by first | (rw [hy107]; with_reducible exact H) | (have H2_ := (Option.bind_some _ _).symm.trans H; rw [hy107]; with_reducible exact H2_) | (have H2_ := (Option.bind_some _ _).symm.trans H; with_reducible exact H2_) | with_reducible exact H | (rw [hy107]; exact H) | exact H
  have Ny107 := Aside0.mk hy107
  clear hy107
  obtain rfl := Option.some.inj H
  go_enter Try.func19, Try.ntmps19
  go_wp2_with (first | ((with_reducible refine gate_dst (N := 1) rfl ?_); refine Kd.R_lit (Kd.int .i64) _ 3 ?hg (N := 1) ?hd (xs := ([1, 2] : List Int)) (inner := [.int .i64 1, .int .i64 2]) (ok := fun _ => True) (okp := fun _ => True) ?hr ?hp (fun _ hk => hk) trivial (Below.refl _ _) (Nat.le_refl _) (by simp) ?_; (case hd => rfl); (case hg => rfl); (case hr => first | (go_simp; done) | (go_simp; rfl)); (case hp => exact (Reps.one (show Kd.M (Kd.int .i64) _ _ _ 1 [.int .i64 1] from rfl) (Reps.one (show Kd.M (Kd.int .i64) _ _ _ 2 [.int .i64 2] from rfl) (Reps.none _ _)))); intro v102 w1 ho2 hb hg_ hnew_; clear hg_ hnew_; (first | rw [← Ny101.out] at ho2 | (simp only [Int.reduceToNat] at ho2; rw [← Ny101.out] at ho2)); have n0_ := Aside0.mk (Kd.R_lower (Kd.R_newM (M := fun k_ => (w.heap.size ≤ k_)) ho2 (below_size (by repeat (first | (with_reducible first | exact HB.out | apply below_alloc | apply pw_below_drewN | apply below_drew1) | exact HB.out))) (fun k_ h_ => h_)) (below_size (by repeat (first | (with_reducible first | exact HB.out | apply below_alloc | apply pw_below_drewN | apply below_drew1) | exact HB.out)))); have n1_ := Aside0.mk (below_step (by repeat (first | (with_reducible first | exact HB.out | apply below_alloc | apply pw_below_drewN | apply below_drew1) | exact HB.out)) hb); clear HB; have HO103 := n0_; have HB := n1_; clear n0_ n1_; clear hb ho2; obtain ⟨Ao3, co3, eo3⟩ := Kd.R_slice HO103.out; subst eo3) | ((with_reducible refine gate_dst (N := 3) rfl ?_); refine Kd.R_lit (Kd.int .i64) _ 3 ?hg (N := 3) ?hd (xs := ([1] : List Int)) (inner := [.int .i64 1]) (ok := fun _ => True) (okp := fun _ => True) ?hr ?hp (fun _ hk => hk) trivial (Below.refl _ _) (Nat.le_refl _) (by simp) ?_; (case hd => rfl); (case hg => rfl); (case hr => first | (go_simp; done) | (go_simp; rfl)); (case hp => exact (Reps.one (show Kd.M (Kd.int .i64) _ _ _ 1 [.int .i64 1] from rfl) (Reps.none _ _))); intro v105 w4 ho5 hb hg_ hnew_; clear hg_ hnew_; (first | rw [← Ny104.out] at ho5 | (simp only [Int.reduceToNat] at ho5; rw [← Ny104.out] at ho5)); have n0_ := Aside0.mk (Kd.R_elder' (by (with_reducible repeat (first | apply Kd.R_alloc | apply Kd.R_drewN | apply Kd.R_drew)); exact HO103.out) (Kd.R_base ho5) hb); have n1_ := Aside0.mk (Kd.R_lower (Kd.R_new' (Kd.R_newM (M := fun k_ => (w.heap.size ≤ k_)) ho5 (below_size (by repeat (first | (with_reducible first | exact HB.out | apply below_alloc | apply pw_below_drewN | apply below_drew1) | exact HB.out))) (fun k_ h_ => h_)) (Kd.R_lt (by (with_reducible repeat (first | apply Kd.R_alloc | apply Kd.R_drewN | apply Kd.R_drew)); exact HO103.out))) (below_size (by repeat (first | (with_reducible first | exact HB.out | apply below_alloc | apply pw_below_drewN | apply below_drew1) | exact HB.out)))); have n2_ := Aside0.mk (below_step (by repeat (first | (with_reducible first | exact HB.out | apply below_alloc | apply pw_below_drewN | apply below_drew1) | exact HB.out)) hb); clear HO103; clear HB; have HO103 := n0_; have HO106 := n1_; have HB := n2_; clear n0_ n1_ n2_; clear hb ho5; obtain ⟨Ao6, co6, eo6⟩ := Kd.R_slice HO106.out; subst eo6) | ((with_reducible refine gate_dst (N := 5) rfl ?_); refine Kd.N_lit k28 _ 28 ?hg (N' := 5) ?hd (xs := ([(⟨8, 4, y101⟩ : S28), (⟨0, 3, y104⟩ : S28)] : List (S28))) (inner := [.int .i64 8, .int .i64 4, .slice Ao3 y101.length co3, .int .i64 0, .int .i64 3, .slice Ao6 y104.length co6]) (ok := (fun k_ => (w.heap.size ≤ k_))) (okp := (fun k_ => (w.heap.size ≤ k_))) ?hr ?hp (fun _ hk => hk) ((show ∀ k_, w4.heap.size ≤ k_ → (fun k_ => (w.heap.size ≤ k_)) k_ from fun k_ hk => (Nat.le_trans (below_size (by repeat (first | (with_reducible first | exact HB.out | apply below_alloc | apply pw_below_drewN | apply below_drew1) | exact HB.out))) hk)) _ (Nat.le_refl _)) (Below.refl _ _) (Nat.le_refl _) (by simp) ?_; (case hd => rfl); (case hg => rfl); (case hr => first | (go_simp; done) | (go_simp; rfl)); (case hp => exact (Reps.c3 (show Kd.FK k28 _ _ (⟨8, 4, y101⟩ : S28) [.int .i64 8, .int .i64 4, .slice Ao3 y101.length co3] from (k28_mkF _ _ (⟨8, 4, y101⟩ : S28) (Kd.R_reads' (Kd.R_mono (ok' := (fun k_ => (w.heap.size ≤ k_))) (HO103.out) (fun k_ hk => hk.1.1))).2.1 (Kd.R_F (Kd.R_mono (ok' := (fun k_ => (w.heap.size ≤ k_))) (HO103.out) (fun k_ hk => hk.1.1))))) (Reps.c3 (show Kd.FK k28 _ _ (⟨0, 3, y104⟩ : S28) [.int .i64 0, .int .i64 3, .slice Ao6 y104.length co6] from (k28_mkF _ _ (⟨0, 3, y104⟩ : S28) (Kd.R_reads' (Kd.R_mono (ok' := (fun k_ => (w.heap.size ≤ k_))) (HO106.out) (fun k_ hk => hk.1.1))).2.1 (Kd.R_F (Kd.R_mono (ok' := (fun k_ => (w.heap.size ≤ k_))) (HO106.out) (fun k_ hk => hk.1.1))))) (Reps.none _ _)))); intro v108 w7 ho8 hb hg_ hnew_; clear hg_ hnew_; (first | rw [← Ny107.out] at ho8 | (simp only [Int.reduceToNat] at ho8; rw [← Ny107.out] at ho8)); have n0_ := Aside0.mk (Kd.N_lower ho8 (below_size (by repeat (first | (with_reducible first | exact HB.out | apply below_alloc | apply pw_below_drewN | apply below_drew1) | exact HB.out)))); have n1_ := Aside0.mk (below_step (by repeat (first | (with_reducible first | exact HB.out | apply below_alloc | apply pw_below_drewN | apply below_drew1) | exact HB.out)) hb); clear HB; clear HO103; clear HO106; have HO109 := n0_; have HB := n1_; clear n0_ n1_; clear hb ho8))
  go_ret
  exact ⟨_, by first | rfl | (simp [errW_none, errW_some] <;> rfl) | (simp [*, errW_none, errW_some] <;> rfl), by (with_reducible repeat (first | apply Kd.N_alloc | apply Kd.N_drewN | apply Kd.N_drew)); exact HO109.out, by repeat (first | (with_reducible first | exact HB.out | apply below_alloc | apply pw_below_drewN | apply below_drew1) | exact HB.out)⟩

end Go.Proofs.Ytdgdjbehddeepaa.PAll
