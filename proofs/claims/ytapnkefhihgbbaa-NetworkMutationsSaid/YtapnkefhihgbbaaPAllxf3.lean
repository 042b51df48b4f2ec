/- What calls of the Go functions below do, each under the premises that its theorem states. Laid by a program of the claimant, which drives the kit's print; some texts are written by hand. -/
import Derived.Test.YtapnkefhihgbbaaPAllx0
import Derived.Test.YtapnkefhihgbbaaPAllxf10
import Derived.Test.YtapnkefhihgbbaaPAllxf13
import Derived.Test.YtapnkefhihgbbaaPAllxf22
import Derived.Test.YtapnkefhihgbbaaPAllxf25
import Derived.Test.YtapnkefhihgbbaaPAllxf9
namespace Go.Proofs.Ytapnkefhihgbbaa.PAll
open Go.RowKit Go.Proofs.YtapnkefhihgbbaaW.PrintWords Go.Proofs.YtapnkefhihgbbaaW.PrintLast Go.Proofs.YtapnkefhihgbbaaW.PrintMore
attribute [local go_sem] max2_int min2_int max_two min_two max_three min_three max_four min_four   -- for this text's walks alone
set_option linter.unusedVariables false
set_option linter.unusedSimpArgs false

/-! ### railplanlaw11_NetworkMutations: function 3 -/
theorem add_off_ (ad : Addr) (m : Nat) : (ad.add m).off = ad.off + m := by unfold Addr.add; by_cases h : m = 0 <;> simp [h]
theorem add_ne_ (ad : Addr) {m n : Nat} (h : m ≠ n) : ad.add m ≠ ad.add n := fun e => h (by have := congrArg Addr.off e; rw [add_off_, add_off_] at this; omega)
/-- A field of an element is written: the list is read with that element changed. -/
theorem act_C_set {W : World} {ad : Addr} {ac : List S31} (h : Kd.C k31 W (some ad) ac.length ac) (i : Nat) (hi : i < ac.length) (j : Nat) (hj : 0 < j) (hj6 : j < 6) (v : Int) (x' : S31)
    (hx : [Value.int .i64 x'.f0, .int .i64 x'.f1, .int .i64 x'.f2, .int .i64 x'.f3, .int .i64 x'.f4, .int .i64 x'.f5] = [Value.int .i64 ac[i].f0, .int .i64 ac[i].f1, .int .i64 ac[i].f2, .int .i64 ac[i].f3, .int .i64 ac[i].f4, .int .i64 ac[i].f5].set j (.int .i64 v)) :
    Kd.C k31 (W.setCell ⟨(ad.add (i * 6)).block, (ad.add (i * 6)).off + j, none⟩ (.int .i64 v)) (some ad) (ac.set i x').length (ac.set i x') := by
  rw [← add_field ad (i * 6) j hj]
  obtain ⟨h1, h2, h3⟩ := h
  refine ⟨rfl, by simpa using h2, fun _ => ⟨ad, rfl, fun q p hp => ?_⟩⟩
  obtain ⟨ad', e, hc⟩ := h3 (by omega)
  cases e
  by_cases hq : q = i
  · subst hq
    have hp' : x' = p := by
      rw [List.getElem?_set_self hi] at hp
      exact Option.some.inj hp
    subst hp'
    refine ⟨_, rfl, k31_mk W x', fun z u hu => ?_⟩
    obtain ⟨c, hl, hK, hcell⟩ := hc q _ (List.getElem?_eq_getElem hi)
    obtain rfl := k31_open hK
    have hs6 : k31.sz = 6 := rfl
    rw [hs6] at hcell ⊢
    rw [hx] at hu
    by_cases hz : z = j
    · subst hz
      rw [List.getElem?_set_self (by simpa using hj6)] at hu
      cases hu
      obtain ⟨u0, hu0⟩ : ∃ u0, [Value.int .i64 ac[q].f0, .int .i64 ac[q].f1, .int .i64 ac[q].f2, .int .i64 ac[q].f3, .int .i64 ac[q].f4, .int .i64 ac[q].f5][z]? = some u0 := ⟨_, List.getElem?_eq_getElem (show z < 6 from hj6)⟩
      exact World.cell?_setCell_same _ _ _ (hcell z u0 hu0)
    · rw [List.getElem?_set_ne (fun e => hz e.symm)] at hu
      rw [World.cell?_setCell_other _ _ _ _ (add_ne_ ad (by omega))]
      exact hcell z u hu
  · rw [List.getElem?_set_ne (fun e => hq e.symm)] at hp
    obtain ⟨c, hl, hK, hcell⟩ := hc q p hp
    refine ⟨c, hl, hK, fun z u hu => ?_⟩
    have hs6 : k31.sz = 6 := rfl
    rw [hs6] at hcell ⊢
    have hz : z < 6 := by have := (List.getElem?_eq_some_iff.1 hu).1; have hl' : c.length = 6 := hl; omega
    rw [World.cell?_setCell_other _ _ _ _ (add_ne_ ad (by omega))]
    exact hcell z u hu
theorem C_setCell_far {α : Type} {d : Kd α} (hd : ∀ {w w1 : World} {x : α} {cs : List Value}, d.K w x cs → d.K w1 x cs) {W : World} {A : Option Addr} {n : Nat} {xs : List α} {p : Addr} {u : Value} (h : d.C W A n xs) (hne : ∀ ad, A = some ad → ad.block ≠ p.block) : d.C (W.setCell p u) A n xs := by
  refine ⟨h.1, h.2.1, fun hn => ?_⟩
  obtain ⟨ad, e, hc⟩ := h.2.2 hn
  refine ⟨ad, e, fun j q hj => ?_⟩
  obtain ⟨c, hl, hK, hcell⟩ := hc j q hj
  refine ⟨c, hl, hd hK, fun i v hi => ?_⟩
  rw [cell_far (by rw [add_block]; exact hne ad e)]
  exact hcell i v hi
theorem C_block_lt {α : Type} {d : Kd α} {W : World} {ad : Addr} {n : Nat} {xs : List α} (h : d.C W (some ad) n xs) (hn : 0 < n) (hs : 0 < d.sz) : ad.block < W.heap.size := by
  obtain ⟨ad', e, hc⟩ := h.2.2 hn
  cases e
  have hl : 0 < xs.length := by rw [h.1]; exact hn
  obtain ⟨c, hl', _, hcell⟩ := hc 0 _ (List.getElem?_eq_getElem hl)
  have := World.block_lt_of_cell? _ _ (hcell 0 _ (List.getElem?_eq_getElem (by omega)))
  rwa [add_block] at this
/-- What stands in the world behind the change. -/
structure MutW (w V : World) (g : Nat) (p : Int) (AE : Option Addr) (ev : List S46) (cE gA : Nat) (ac : List S31) (n cap : Nat) : Prop where
  b : Below w.heap.size w V
  c0 : V.cell? ⟨g, 0, none⟩ = some (.int .i64 p)
  c1 : V.cell? ⟨g, 1, none⟩ = some (.slice AE ev.length cE)
  c2 : V.cell? ⟨g, 2, none⟩ = some (.slice (some ⟨gA, 0, none⟩) n cap)
  ce : Kd.C k46 V AE ev.length ev
  ca : Kd.C k31 V (some ⟨gA, 0, none⟩) ac.length ac
  ln : ac.length = n
theorem C_drewN' {α : Type} {d : Kd α} {W : World} {A : Option Addr} {m : Nat} {xs : List α} (h : d.C W A m xs) (n : Nat) : d.C (W.drewN n) A m xs := Kd.C_below h (pw_below_drewN (Below.refl _ _) n)
theorem mut_elem {w w1 : World} (p : Int) {AE : Option Addr} {ev : List S46} {cE gA : Nat} {ac : List S31} {cap : Nat} (n : Nat) (i : Int) (i0 : 0 ≤ i) (i1 : i < ac.length) (hb : Below w.heap.size w w1) (hgb : w.heap.size ≤ gA) (hgA : gA < w1.heap.size)
    (RE : Kd.C k46 w1 AE ev.length ev) (RA : Kd.C k31 w1 (some ⟨gA, 0, none⟩) ac.length ac) (hE : ∀ ad, AE = some ad → ad.block ≠ gA) (j : Nat) (hj : 0 < j) (hj6 : j < 6) (v : Int) (f : S31 → S31)
    (hx : ∀ x : S31, [Value.int .i64 (f x).f0, .int .i64 (f x).f1, .int .i64 (f x).f2, .int .i64 (f x).f3, .int .i64 (f x).f4, .int .i64 (f x).f5] = [Value.int .i64 x.f0, .int .i64 x.f1, .int .i64 x.f2, .int .i64 x.f3, .int .i64 x.f4, .int .i64 x.f5].set j (.int .i64 v)) :
    ∃ ac', MutW w (((w1.alloc (.cells #[.int .i64 p, .slice AE ev.length cE, .slice (some ⟨gA, 0, none⟩) ac.length cap] 26)).drewN n).setCell ⟨gA, i.toNat * 6 + j, none⟩ (.int .i64 v)) w1.heap.size p AE ev cE gA ac' ac.length cap := by
  have hl : i.toNat < ac.length := by omega
  have hw : Below w1.heap.size w1 ((w1.alloc (.cells #[.int .i64 p, .slice AE ev.length cE, .slice (some ⟨gA, 0, none⟩) ac.length cap] 26)).drewN n) := pw_below_drewN ((Below.refl _ _).alloc (Nat.le_refl _) _) n
  have hbk := blk_new w1 (.cells #[.int .i64 p, .slice AE ev.length cE, .slice (some ⟨gA, 0, none⟩) ac.length cap] 26)
  have hne : gA ≠ w1.heap.size := Nat.ne_of_lt hgA
  refine ⟨ac.set i.toNat (f ac[i.toNat]), ?_, ?_, ?_, ?_, ?_, ?_, by simp⟩
  · exact below_set (hb.trans (hw.mono hb.size)) hgb
  · exact (cell_far (show w1.heap.size ≠ gA from hne.symm) _).trans ((blk_cell (blk_drewN hbk n) 0).trans rfl)
  · exact (cell_far (show w1.heap.size ≠ gA from hne.symm) _).trans ((blk_cell (blk_drewN hbk n) 1).trans rfl)
  · exact (cell_far (show w1.heap.size ≠ gA from hne.symm) _).trans ((blk_cell (blk_drewN hbk n) 2).trans rfl)
  · exact C_setCell_far (fun h => h) (Kd.C_below RE hw) (fun ad e => hE ad e)
  · have h := act_C_set (Kd.C_below RA hw) i.toNat hl j hj hj6 v (f ac[i.toNat]) (hx _)
    simp only [add_plain] at h
    exact h
theorem mut_per {w w1 : World} (p : Int) {AE : Option Addr} {ev : List S46} {cE gA : Nat} {ac : List S31} {cap : Nat} (n : Nat) (hb : Below w.heap.size w w1) (hgA : gA < w1.heap.size)
    (RE : Kd.C k46 w1 AE ev.length ev) (hev : 0 < ev.length) (RA : Kd.C k31 w1 (some ⟨gA, 0, none⟩) ac.length ac) (v : Int) :
    MutW w (((w1.alloc (.cells #[.int .i64 p, .slice AE ev.length cE, .slice (some ⟨gA, 0, none⟩) ac.length cap] 26)).drewN n).setCell ⟨w1.heap.size, 0, none⟩ (.int .i64 v)) w1.heap.size v AE ev cE gA ac ac.length cap := by
  have hw : Below w1.heap.size w1 ((w1.alloc (.cells #[.int .i64 p, .slice AE ev.length cE, .slice (some ⟨gA, 0, none⟩) ac.length cap] 26)).drewN n) := pw_below_drewN ((Below.refl _ _).alloc (Nat.le_refl _) _) n
  have hbk := blk_drewN (blk_new w1 (.cells #[.int .i64 p, .slice AE ev.length cE, .slice (some ⟨gA, 0, none⟩) ac.length cap] 26)) n
  have hs := blk_set hbk 0 (.int .i64 v)
  refine ⟨below_set (hb.trans (hw.mono hb.size)) hb.size, (blk_cell hs 0).trans rfl, (blk_cell hs 1).trans rfl, (blk_cell hs 2).trans rfl, ?_, ?_, rfl⟩
  · refine C_setCell_far (fun h => h) (Kd.C_below RE hw) (fun ad e => ?_)
    subst e
    exact Nat.ne_of_lt (C_block_lt RE hev (by decide))
  · refine C_setCell_far (fun h => h) (Kd.C_below RA hw) (fun ad e => ?_)
    cases e
    exact Nat.ne_of_lt hgA
structure railplanlaw11_NetworkMutations.Pure : Prop where
  net : ∀ l : List Int, l.length ≤ 1152921504606846976 → ∃ (k : Nat) (p : Int) (ev : List S46) (ac : List S31), railplankeep_Network.f k l = some (p, ev, ac) ∧ ac.length ≤ 8 ∧ 1 ≤ ev.length
  chk : ∀ (p : Int) (ev : List S46) (ac : List S31), railplanref11_Check.f 600 p ev ac = some (network_Check.b p ev ac)
  awake : railplanlaw11_awake.f = some true
  pick : ∀ a n : Int, 1 ≤ n → n ≤ 4611686018427387904 → ∃ v, railplankeep_Pick.f a n = some v ∧ 0 ≤ v ∧ v < n
def railplanlaw11_NetworkMutations.f : Option Bool := some true
set_option maxHeartbeats 16000000 in
set_option maxRecDepth 100000 in
theorem railplanlaw11_NetworkMutations.main (P : railplanlaw11_NetworkMutations.Pure) (A0 : Option Addr) (c0 : Nat) (l0 : List Int) (a1 a2 a3 : Int) (a4 : Bool) (w : World) (hr0 : Kd.C (Kd.int .i64) w A0 l0.length l0) (hc0 : l0.length ≤ c0) (hy0 : l0.length * 8 ≤ 140737488351232) (hw0 : ∀ x ∈ l0, (Lit.int .i64 x).wf = true) (hw1 : (Lit.int .i64 a1).wf = true) (hw2 : (Lit.int .i64 a2).wf = true) (hw3 : (Lit.int .i64 a3).wf = true) :
    Calls Try.prog 3 #[.slice A0 l0.length c0, .int .i64 a1, .int .i64 a2, .int .i64 a3, .bool a4] w fun e w' => e = .returned (.bool true) ∧ Below w.heap.size w w' := by
  have hun := Try.underlying26
  have hua := Try.underlying31
  obtain ⟨k, p, ev, ac, hn, hac, hev⟩ := P.net l0 (by omega)
  have KN := Aside0.mk (railplankeep_Network.calls k _ _ l0 p ev ac w hr0 hc0 hn)
  have KW := Aside0.mk (fun W => railplanlaw11_awake.calls true W P.awake)
  by_cases hz : ac.length = 0
  · have hz1 : (ac.length == 0) = true := by simp [hz]
    have hz2 : ((ac.length : Int) == 0) = true := by simp [hz]
    clear hz hn hw0 hw1 hw2 hw3 hr0
    go_enter Try.func3, Try.ntmps3
    go_wp2_with fail
    refine KN.out.mono ?_
    rintro e w1 ⟨v1, v2, rfl, ho1, ho2, hb⟩
    obtain ⟨AE, cE, rfl, lE, rE⟩ := Kd.R_reads ho1
    obtain ⟨AA_, cA, rfl, lA, rA⟩ := Kd.R_reads ho2
    go_wp2_with fail
    refine (KW.out _).mono ?_
    rintro e w2 ⟨rfl, hb2⟩
    go_wp2
    go_ret
    exact ⟨rfl, hb.trans ((((Below.refl _ _).alloc (Nat.le_refl _) _ : Below w1.heap.size w1 _).trans (hb2.mono (by simp))).mono hb.size)⟩
  · have hz1 : (ac.length == 0) = false := by simp [hz]
    have hz2 : ((ac.length : Int) == 0) = false := by simp [hz]
    obtain ⟨i, hi, i0, i1⟩ := P.pick a1 (ac.length : Int) (by omega) (by omega)
    obtain ⟨wv, hwv, wv0, wv1⟩ := P.pick a3 40 (by omega) (by omega)
    obtain ⟨fl, hfl, fl0, fl1⟩ := P.pick a2 6 (by omega) (by omega)
    have KI := Aside0.mk hi
    have KV := Aside0.mk hwv
    have KF := Aside0.mk hfl
    have HZ := Aside0.mk hz
    have CHK := Aside0.mk P.chk
    clear hz hn hw0 hw1 hw2 hw3 hr0 hi hwv hfl
    have hfl : fl = 0 ∨ fl = 1 ∨ fl = 2 ∨ fl = 3 ∨ fl = 4 ∨ fl = 5 := by omega
    clear fl0 fl1
    cases a4
    all_goals rcases hfl with rfl | rfl | rfl | rfl | rfl | rfl
    all_goals
      go_enter Try.func3, Try.ntmps3
      go_wp2_with fail
      refine KN.out.mono ?_
      rintro e w1 ⟨v1, v2, rfl, ho1, ho2, hb⟩
      obtain ⟨AE, cE, rfl, lE, rE⟩ := Kd.R_reads ho1
      obtain ⟨inner, hown⟩ := Kd.R_own ho2
      obtain ⟨AA_, cA, rfl, lA, rA⟩ := Kd.R_reads ho2
      obtain ⟨gA, cap, hv_, _⟩ := hown.form (by omega)
      injection hv_ with f1_ f2_ f3_
      subst f1_
      subst f3_
      obtain ⟨cur, hblk⟩ := own_typed hown gA rfl
      have hgA : gA < w1.heap.size := blk_lt hblk
      have hnA : gA ≠ w1.heap.size := Nat.ne_of_lt hgA
      obtain ⟨ad, eA, hx0, hx1, hx2, hx3, hx4, hx5⟩ := at_T31 rA i i0 i1
      cases eA
      simp only [add_plain] at hx0 hx1 hx2 hx3 hx4 hx5
      have hz1_ := blk_frozen hblk (i.toNat * 6 + 1)
      have hz2_ := blk_frozen hblk (i.toNat * 6 + 2)
      have hz3_ := blk_frozen hblk (i.toNat * 6 + 3)
      have hz4_ := blk_frozen hblk (i.toNat * 6 + 4)
      have hz5_ := blk_frozen hblk (i.toNat * 6 + 5)
      have hgb : w.heap.size ≤ gA := own_base hown gA rfl
      have hE : ∀ ad, AE = some ad → ad.block ≠ gA := fun ad e => by
        obtain ⟨inner1, hown1⟩ := Kd.R_own ho1
        obtain ⟨g1, cap1, hv1, _⟩ := hown1.form (by omega)
        injection hv1 with f1 f2 f3
        obtain ⟨cur1, hblk1⟩ := own_typed hown1 g1 (by rw [f1]; rfl)
        rw [e] at f1
        cases f1
        exact blk_ne hblk1 hblk (by decide)
      have HG := Aside0.mk hgb
      have HE := Aside0.mk hE
      have RA := Aside0.mk rA
      have RE := Aside0.mk rE
      have HO := Aside0.mk hown
      have HBK := Aside0.mk hblk
      have HB := Aside0.mk hb
      clear rA rE hown hblk ho1 ho2 hb hgb hE
      have i0t := eq_true i0
      have i1t := eq_true i1
      go_wp2
      go_quiet (first | (go_at_call 11; (with_reducible refine (railplankeep_Pick.calls _ _ _ _ KI.out).mono ?_); rintro e w' ⟨rfl, ⟨nd, rfl⟩⟩; (try first | exact ⟨rfl, _, World.drewN_drewN _ _ _⟩ | exact ⟨rfl, _, Eq.trans (World.drewN_drewN _ _ _) (congrArg (World.drewN _) (Nat.add_assoc _ _ _))⟩)))
      go_wp2_with fail
      refine (railplankeep_Pick.calls _ _ _ _ KV.out).mono ?_
      rintro e w' ⟨rfl, ⟨nd2, rfl⟩⟩
      go_wp2_with fail
      refine (railplankeep_Pick.calls _ _ _ _ KF.out).mono ?_
      rintro e w' ⟨rfl, ⟨nd3, rfl⟩⟩
      go_wp2
      generalize hV : World.setCell (World.drewN (World.alloc w1 _) _) _ _ = V
      have M : ∃ (p' : Int) (ac' : List S31), MutW w V w1.heap.size p' AE ev cE gA ac' ac.length cA := by
        subst hV
        first
          | exact ⟨_, mut_elem p _ i i0 i1 HB.out HG.out hgA RE.out RA.out HE.out 1 (by omega) (by omega) (wv - 20) (fun x => ⟨x.f0, (wv - 20), x.f2, x.f3, x.f4, x.f5⟩) (fun x => rfl)⟩
          | exact ⟨_, mut_elem p _ i i0 i1 HB.out HG.out hgA RE.out RA.out HE.out 2 (by omega) (by omega) (wv - 20) (fun x => ⟨x.f0, x.f1, (wv - 20), x.f3, x.f4, x.f5⟩) (fun x => rfl)⟩
          | exact ⟨_, mut_elem p _ i i0 i1 HB.out HG.out hgA RE.out RA.out HE.out 3 (by omega) (by omega) (wv - 20) (fun x => ⟨x.f0, x.f1, x.f2, (wv - 20), x.f4, x.f5⟩) (fun x => rfl)⟩
          | exact ⟨_, mut_elem p _ i i0 i1 HB.out HG.out hgA RE.out RA.out HE.out 4 (by omega) (by omega) (wv - 20) (fun x => ⟨x.f0, x.f1, x.f2, x.f3, (wv - 20), x.f5⟩) (fun x => rfl)⟩
          | exact ⟨_, mut_elem p _ i i0 i1 HB.out HG.out hgA RE.out RA.out HE.out 5 (by omega) (by omega) (wv - 20) (fun x => ⟨x.f0, x.f1, x.f2, x.f3, x.f4, (wv - 20)⟩) (fun x => rfl)⟩
          | exact ⟨_, mut_elem p _ i i0 i1 HB.out HG.out hgA RE.out RA.out HE.out 1 (by omega) (by omega) (a3) (fun x => ⟨x.f0, (a3), x.f2, x.f3, x.f4, x.f5⟩) (fun x => rfl)⟩
          | exact ⟨_, mut_elem p _ i i0 i1 HB.out HG.out hgA RE.out RA.out HE.out 2 (by omega) (by omega) (a3) (fun x => ⟨x.f0, x.f1, (a3), x.f3, x.f4, x.f5⟩) (fun x => rfl)⟩
          | exact ⟨_, mut_elem p _ i i0 i1 HB.out HG.out hgA RE.out RA.out HE.out 3 (by omega) (by omega) (a3) (fun x => ⟨x.f0, x.f1, x.f2, (a3), x.f4, x.f5⟩) (fun x => rfl)⟩
          | exact ⟨_, mut_elem p _ i i0 i1 HB.out HG.out hgA RE.out RA.out HE.out 4 (by omega) (by omega) (a3) (fun x => ⟨x.f0, x.f1, x.f2, x.f3, (a3), x.f5⟩) (fun x => rfl)⟩
          | exact ⟨_, mut_elem p _ i i0 i1 HB.out HG.out hgA RE.out RA.out HE.out 5 (by omega) (by omega) (a3) (fun x => ⟨x.f0, x.f1, x.f2, x.f3, x.f4, (a3)⟩) (fun x => rfl)⟩
          | exact ⟨_, _, mut_per p _ HB.out hgA RE.out (by omega) RA.out _⟩
      clear hV
      obtain ⟨p', ac', M⟩ := M
      have HBV := Aside0.mk M.b
      have hln := M.ln
      rw [← hln] at M
      have SBA := Aside0.mk (fun (w' : World) (h : Below V.heap.size V w') => (⟨pw_cell_below h M.c0, pw_cell_below h M.c1, pw_cell_below h M.c2, h⟩ : w'.cell? ⟨w1.heap.size, 0, none⟩ = some (.int .i64 p') ∧ w'.cell? ⟨w1.heap.size, 1, none⟩ = some (.slice AE ev.length cE) ∧ w'.cell? ⟨w1.heap.size, 2, none⟩ = some (.slice (some ⟨gA, 0, none⟩) ac'.length cA) ∧ Below V.heap.size V w'))
      have K1 := Aside0.mk (fun (W : World) (h : Below V.heap.size V W) => show Calls Try.prog 12 #[.agg #[.int .i64 p', .slice AE ev.length cE, .slice (some ⟨gA, 0, none⟩) ac'.length cA]] W fun e w' => e = .returned (.bool (network_Check.b p' ev ac')) ∧ Below V.heap.size V w' from (network_Check.calls p' AE cE ev (some ⟨gA, 0, none⟩) cA ac' _ W (Kd.C_below M.ce h) lE (Kd.C_below M.ca h) (by rw [hln]; exact lA) rfl).mono fun e w' hh => ⟨hh.1, h.trans (hh.2.mono h.size)⟩)
      have K2 := Aside0.mk (fun (W : World) (h : Below V.heap.size V W) => show Calls Try.prog 13 #[.agg #[.int .i64 p', .slice AE ev.length cE, .slice (some ⟨gA, 0, none⟩) ac'.length cA]] W fun e w' => e = .returned (.bool (network_Check.b p' ev ac')) ∧ Below V.heap.size V w' from (railplanref11_Check.calls 600 p' AE cE ev (some ⟨gA, 0, none⟩) cA ac' _ W (Kd.C_below M.ce h) lE (Kd.C_below M.ca h) (by rw [hln]; exact lA) (CHK.out p' ev ac')).mono fun e w' hh => ⟨hh.1, h.trans (hh.2.mono h.size)⟩)
      have K0 := Aside0.mk (fun (W : World) (h : Below V.heap.size V W) => (KW.out W).mono fun e w' hh => (⟨hh.1, h.trans (hh.2.mono h.size)⟩ : e = .returned (.bool true) ∧ Below V.heap.size V w'))
      rw [← hln]
      generalize network_Check.b p' ev ac' = bb at K1 K2
      clear hln
      clear M hx0 hx1 hx2 hx3 hx4 hx5 hz1_ hz2_ hz3_ hz4_ hz5_
      go_region_held3 (fun w' => w'.cell? ⟨w1.heap.size, 0, none⟩ = some (.int .i64 p') ∧ w'.cell? ⟨w1.heap.size, 1, none⟩ = some (.slice AE ev.length cE) ∧ w'.cell? ⟨w1.heap.size, 2, none⟩ = some (.slice (some ⟨gA, 0, none⟩) ac'.length cA) ∧ Below V.heap.size V w')
        (first | exact SBA.out _ (by assumption) | exact SBA.out _ (below_drew (Below.refl _ _)))
        (first | (go_at_call 10; refine (K0.out _ ?_).mono ?_; (first | assumption | exact below_drew (Below.refl _ _)); rintro e w' ⟨rfl, hb⟩) | (go_at_call 12; refine (K1.out _ ?_).mono ?_; (first | assumption | exact below_drew (Below.refl _ _)); rintro e w' ⟨rfl, hb⟩) | (go_at_call 13; refine (K2.out _ ?_).mono ?_; (first | assumption | exact below_drew (Below.refl _ _)); rintro e w' ⟨rfl, hb⟩))
      all_goals go_wp2
      go_ret
      exact ⟨rfl, HBV.out.trans (hb.mono HBV.out.size)⟩


theorem railplanlaw11_NetworkMutations.walk (P : railplanlaw11_NetworkMutations.Pure) (a0 : Option Addr) (len0 cap0 : Nat) (z0 : List Int) (a1 : Int) (a2 : Int) (a3 : Int) (a4 : Bool) (w : World) (w0 : (a0 = none ∧ len0 = 0 ∧ cap0 = 0 ∧ z0 = []) ∨ ∃ x, a0 = some x ∧ len0 ≤ cap0 ∧ cap0 ≤ maxLen ∧ z0.length = cap0 ∧ (∀ i, i < z0.length → w.cell? (x.add i) = some (.int .i64 (z0.getD i 0))) ∧ ∀ n ∈ z0, (Lit.int .i64 n).wf = true) (y0 : len0 * 8 ≤ 140737488351232) (w1 : (Lit.int .i64 a1).wf = true) (w2 : (Lit.int .i64 a2).wf = true) (w3 : (Lit.int .i64 a3).wf = true) :
    Calls Try.prog 3 #[.slice a0 len0 cap0, .int .i64 a1, .int .i64 a2, .int .i64 a3, .bool a4] w fun e w' => e = .returned (.bool true) ∧ Below w.heap.size w w' := by
  obtain ⟨l0, rfl, hr0, hm0, hw0, hc0⟩ := ReadsInt.ofRowC w0
  exact railplanlaw11_NetworkMutations.main P _ _ l0 a1 a2 a3 a4 w (Kd.C_of_reads (d := (0 : Int)) (h1 := fun _ => rfl) hr0) hc0 y0 hw0 w1 w2 w3

/-! ### railplankeep_Times: function 14 -/
def railplankeep_Times.l0 : Nat → List Int → Int → Int → Int → List (S46) → List (S31) → List Int → Int → Option (List Int)
  | 0, _, _, _, _, _, _, _, _ => none
  | k + 1, x6, x15, x16, x182000, x182001, x182002, x185000, x185001 => if x16 < x15 then ((railplankeep_Source_Next.f x185000 x185001 x182000).bind fun bt188 => (if 0 ≤ x16 then (if x16 < (x6.length : Int) then (railplankeep_Times.l0 k (x6.set (x16 : Int).toNat bt188.1) x15 (wrap64 (x16 + 1)) x182000 x182001 x182002 x185000 bt188.2) else (none)) else (none))) else (some x6)
def railplankeep_Times.f (k : Nat) (a0_0 : Int) (l0_1 : List (S46)) (l0_2 : List (S31)) (l1 : List Int) : Option (List Int) := (railplankeep_From.f l1).bind fun bt182 => (if 0 ≤ (l0_1.length : Int) then (if ((l0_1.length : Int) : Int).toNat ≤ 35184372088832 then ((some (List.replicate ((l0_1.length : Int) : Int).toNat 0 : List Int)).bind fun y185 => (railplankeep_Times.l0 k y185 (y185.length : Int) 0 a0_0 l0_1 l0_2 bt182.1 bt182.2)) else (none)) else (none))
theorem railplankeep_Times.mono_l : ∀ k, (∀ y0 y1 y2 y3 y4 y5 y6 y7, LeO (railplankeep_Times.l0 k y0 y1 y2 y3 y4 y5 y6 y7) (railplankeep_Times.l0 (k + 1) y0 y1 y2 y3 y4 y5 y6 y7))
  | 0 => fun _ _ _ _ _ _ _ _ r h => by simp [railplankeep_Times.l0] at h
  | k + 1 => by
    have ih0 := railplankeep_Times.mono_l k
    · intro y0 y1 y2 y3 y4 y5 y6 y7
      unfold railplankeep_Times.l0
      repeat' first
      | (with_reducible exact ih0 _ _ _ _ _ _ _ _)
      | (with_reducible exact LeO.refl _)
      | (with_reducible exact LeO.none _)
      | (with_reducible refine LeO.ite ?_ ?_)
      | (with_reducible refine LeO.bind ?_ (fun _ => ?_))
      | exact ih0 _ _ _ _ _ _ _ _
      | exact LeO.none _
      | refine LeO.ite ?_ ?_
      | refine LeO.bind ?_ (fun _ => ?_)
theorem railplankeep_Times.mono : ∀ a0 a1 a2 a3 k, LeO (railplankeep_Times.f k a0 a1 a2 a3) (railplankeep_Times.f (k + 1) a0 a1 a2 a3) := by
  intro a0 a1 a2 a3 k
  have ih0 := railplankeep_Times.mono_l k
  unfold railplankeep_Times.f
  repeat' first
      | (with_reducible exact ih0 _ _ _ _ _ _ _ _)
      | (with_reducible exact LeO.refl _)
      | (with_reducible exact LeO.none _)
      | (with_reducible refine LeO.ite ?_ ?_)
      | (with_reducible refine LeO.bind ?_ (fun _ => ?_))
      | exact ih0 _ _ _ _ _ _ _ _
      | exact LeO.none _
      | refine LeO.ite ?_ ?_
      | refine LeO.bind ?_ (fun _ => ?_)
set_option maxHeartbeats 8000000 in
set_option maxRecDepth 100000 in
theorem railplankeep_Times.calls (k : Nat) (a0_0 : Int) (A0_1 : Option Addr) (c0_1 : Nat) (l0_1 : List (S46)) (A0_2 : Option Addr) (c0_2 : Nat) (l0_2 : List (S31)) (A1 : Option Addr) (c1 : Nat) (l1 : List Int) (r : List Int) (w : World) (hr0_1 : Kd.C k46 w A0_1 l0_1.length l0_1) (hc0_1 : l0_1.length ≤ c0_1) (hr0_2 : Kd.C k31 w A0_2 l0_2.length l0_2) (hc0_2 : l0_2.length ≤ c0_2) (hr1 : Kd.C (Kd.int .i64) w A1 l1.length l1) (hc1 : l1.length ≤ c1) (h : railplankeep_Times.f k a0_0 l0_1 l0_2 l1 = some r) :
    Calls Try.prog 14 #[.agg #[.int .i64 a0_0, .slice A0_1 l0_1.length c0_1, .slice A0_2 l0_2.length c0_2], .slice A1 l1.length c1] w fun e w' => ∃ v0_ : Value, e = .returned (v0_) ∧ Kd.R (Kd.int .i64) 3 w' w.heap.size (fun _ => True) v0_ r ∧ Below w.heap.size w w' := by
  have hu26 := Try.underlying26
  have HR0_1 := Aside0.mk hr0_1
  have HC0_1 := Aside0.mk hc0_1
  clear hr0_1 hc0_1
  have HR0_2 := Aside0.mk hr0_2
  have HC0_2 := Aside0.mk hc0_2
  clear hr0_2 hc0_2
  have HR1 := Aside0.mk hr1
  have HC1 := Aside0.mk hc1
  clear hr1 hc1
  have HB := Aside0.mk (Below.refl w.heap.size w)
  have H : ((railplankeep_From.f l1).bind fun bt182 => (if 0 ≤ (l0_1.length : Int) then (if ((l0_1.length : Int) : Int).toNat ≤ 35184372088832 then ((some (List.replicate ((l0_1.length : Int) : Int).toNat 0 : List Int)).bind fun y185 => (railplankeep_Times.l0 k y185 (y185.length : Int) 0 a0_0 l0_1 l0_2 bt182.1 bt182.2)) else (none)) else (none))) = some r := h
  clear h
  replace H := Option.bind_eq_some_iff.mp H
  obtain ⟨⟨t182, t183⟩, A30, H⟩ := H
  replace H : (if 0 ≤ (l0_1.length : Int) then (if ((l0_1.length : Int) : Int).toNat ≤ 35184372088832 then ((some (List.replicate ((l0_1.length : Int) : Int).toNat 0 : List Int)).bind fun y185 => (railplankeep_Times.l0 k y185 (y185.length : Int) 0 a0_0 l0_1 l0_2 t182 t183)) else (none)) else (none)) = some r := H
  have A3 := Aside0.mk A30
  clear A30
  by_cases c4 : 0 ≤ (l0_1.length : Int)
  · rw [if_pos c4] at H
    have c4b0 := eq_true c4
    have c4b1 : decide (0 ≤ (l0_1.length : Int)) = true := decide_eq_true c4
    clear c4
    by_cases c5 : ((l0_1.length : Int) : Int).toNat ≤ 35184372088832
    · rw [if_pos c5] at H
      have c5b0 := eq_true c5
      have c5b1 : decide (((l0_1.length : Int) : Int).toNat ≤ 35184372088832) = true := decide_eq_true c5
      clear c5
      obtain ⟨y185, hy185⟩ : ∃ y_ : List Int, y_ = (List.replicate ((l0_1.length : Int) : Int).toNat 0) := ⟨_, rfl⟩
      replace H : (railplankeep_Times.l0 k y185 (y185.length : Int) 0 a0_0 l0_1 l0_2 t182 t183) = some r := by first | (rw [hy185]; with_reducible exact H) | (have H2_ := (Option.bind_some _ _).symm.trans H; rw [hy185]; with_reducible exact H2_) | (have H2_ := (Option.bind_some _ _).symm.trans H; with_reducible exact H2_) | with_reducible exact H | (rw [hy185]; exact H) | exact H
      have Ny185 := Aside0.mk hy185
      clear hy185
      have H' := Aside0.mk H
      clear H
      go_enter Try.func14, Try.ntmps14
      go_wp2_with (first | ((with_reducible refine gate_dst (N := 2) rfl ?_); refine box_event ?hg (N := 2) ?hd (cs := #[.int .i64 a0_0, .slice A0_1 l0_1.length c0_1, .slice A0_2 l0_2.length c0_2]) (t := 26) ?hr ?_; (case hd => rfl); (case hg => rfl); (case hr => first | (go_simp; done) | (go_simp; rfl)); intro gb181 hg w6 hbox hb; have n0_ := Aside0.mk (below_step (by repeat (first | (with_reducible first | exact HB.out | apply below_alloc | apply pw_below_drewN | apply below_drew1) | exact HB.out)) hb); have n1_ := Aside0.mk (hbox); have n2_ := Aside0.mk ((by rw [hg]; exact (below_size (by repeat (first | (with_reducible first | exact HB.out | apply below_alloc | apply pw_below_drewN | apply below_drew1) | exact HB.out))) : w.heap.size ≤ gb181)); have n3_ := Aside0.mk ((by rw [hg]; exact (below_size (by repeat (first | (with_reducible first | exact HB.out | apply below_alloc | apply pw_below_drewN | apply below_drew1) | exact HB.out))) : w.heap.size ≤ gb181)); clear HB; have HB := n0_; have BK181 := n1_; have GW181 := n2_; have GE181 := n3_; clear n0_ n1_ n2_ n3_; clear hb hbox hg) | ((with_reducible refine gate_callee (f := 22) rfl ?_); refine goesL_ (some 9) rfl rfl Try.func22 (by kernel_rfl) rfl #[.slice A1 l1.length c1] rfl (by (try simp only [List.map_toArray, List.map_cons, List.map_nil]); first | done | rfl | (simp only [List.length_drop, List.length_take]; rfl)) ?_; (with_reducible refine (railplankeep_From.calls _ _ l1 t182 t183 w _ ?side1 ?side2 ?side3 A3.out).mono ?_); (case side1 => repeat (first | (with_reducible first | exact HB.out | apply below_alloc | apply pw_below_drewN | apply below_drew1 | refine below_set ?_ GE181.out) | exact HB.out)); (case side2 => exact HR1.out); (case side3 => exact HC1.out); rintro e w7 ⟨g184, rfl, hi, hb, hb2⟩; refine ⟨_, rfl, ?_⟩; have n0_ := Aside0.mk (blk_below (g := gb181) (o := .cells #[.int .i64 a0_0, .slice A0_1 l0_1.length c0_1, .slice A0_2 l0_2.length c0_2] 26 (0, 0)) (by (with_reducible repeat (first | refine blk_drewN ?_ _ | refine blk_drew ?_ | refine blk_alloc ?_ _)); exact BK181.out) hb2); have n1_ := Aside0.mk (hb); have n2_ := Aside0.mk (hi); have n3_ := Aside0.mk (IsS61.ne_blk hi (blk_below (g := gb181) (o := .cells #[.int .i64 a0_0, .slice A0_1 l0_1.length c0_1, .slice A0_2 l0_2.length c0_2] 26 (0, 0)) (by (with_reducible repeat (first | refine blk_drewN ?_ _ | refine blk_drew ?_ | refine blk_alloc ?_ _)); exact BK181.out) hb2) (by decide)); have n4_ := Aside0.mk (Ne.symm (IsS61.ne_blk hi (blk_below (g := gb181) (o := .cells #[.int .i64 a0_0, .slice A0_1 l0_1.length c0_1, .slice A0_2 l0_2.length c0_2] 26 (0, 0)) (by (with_reducible repeat (first | refine blk_drewN ?_ _ | refine blk_drew ?_ | refine blk_alloc ?_ _)); exact BK181.out) hb2) (by decide))); clear BK181; clear HB; have BK181 := n0_; have HB := n1_; have HI184 := n2_; have NB184_181 := n3_; have NB181_184 := n4_; clear n0_ n1_ n2_ n3_ n4_; (try clear hb); (try clear hb2); (try clear hk); (try clear hi); have hnb8 := NB181_184.out; have hnc8 := NB184_181.out; have hcz9_0 : w7.cell? ⟨gb181, 0, none⟩ = some (.int .i64 a0_0) := (blk_cell BK181.out 0).trans rfl; have hcz9_1 : w7.cell? ⟨gb181, 1, none⟩ = some (.slice A0_1 l0_1.length c0_1) := (blk_cell BK181.out 1).trans rfl; have hcz9_2 : w7.cell? ⟨gb181, 2, none⟩ = some (.slice A0_2 l0_2.length c0_2) := (blk_cell BK181.out 2).trans rfl; have hfz9_0 := blk_frozen BK181.out 0; have hfz9_1 := blk_frozen BK181.out 1; have hfz9_2 := blk_frozen BK181.out 2) | ((with_reducible refine gate_dst (N := 13) rfl ?_); refine Kd.R_make (Kd.int .i64) _ 3 rfl (N := 13) rfl 22 _ _ rfl (l0_1.length : Int) rfl rfl Try.underlying22 (.int .i64 0) 8 info3 rfl (by decide) (by omega) 0 (ok := fun _ => True) (okp := fun _ => True) rfl (fun _ hk => hk) trivial (of_decide_eq_true (by first | (with_reducible assumption) | assumption)) (Nat.le_trans (Nat.mul_le_mul_right _ (of_decide_eq_true (by first | (with_reducible assumption) | assumption) : (l0_1.length : Int).toNat ≤ 35184372088832)) (by omega)) (Below.refl _ _) (Nat.le_refl _) ?_; intro v186 w10 ho11 hb hg_ hnew_; clear hg_ hnew_; (first | rw [← Ny185.out] at ho11 | (simp only [Int.reduceToNat] at ho11; rw [← Ny185.out] at ho11)); have n0_ := Aside0.mk (Kd.R_lower ho11 (below_size (by repeat (first | (with_reducible first | exact HB.out | apply below_alloc | apply pw_below_drewN | apply below_drew1 | refine below_set ?_ (IsS61.ge HI184.out) | refine below_set ?_ GE181.out) | exact HB.out)))); have n1_ := Aside0.mk (blk_below (g := gb181) (o := .cells #[.int .i64 a0_0, .slice A0_1 l0_1.length c0_1, .slice A0_2 l0_2.length c0_2] 26 (0, 0)) (by (with_reducible repeat (first | refine blk_drewN ?_ _ | refine blk_drew ?_ | refine blk_alloc ?_ _)); exact BK181.out) hb); have n2_ := Aside0.mk (IsS61.below (by repeat (first | (with_reducible first | exact HI184.out | apply IsS61.alloc | apply IsS61.drewN | apply IsS61.drew | apply IsS61.set_1 | refine IsS61.far ?_ NB184_181.out _) | exact HI184.out)) hb); have n3_ := Aside0.mk (below_step (by repeat (first | (with_reducible first | exact HB.out | apply below_alloc | apply pw_below_drewN | apply below_drew1 | refine below_set ?_ (IsS61.ge HI184.out) | refine below_set ?_ GE181.out) | exact HB.out)) hb); clear BK181; clear HI184; clear HB; have HO187 := n0_; have BK181 := n1_; have HI184 := n2_; have HB := n3_; clear n0_ n1_ n2_ n3_; clear hb ho11; obtain ⟨Ao12, co12, eo12⟩ := Kd.R_slice HO187.out; subst eo12))
      go_loopg [16] k (fun kq v16 w' => ∃ (x6_1 : List Int) (x16_1 : Int) (x185001_1 : Int), v16 = .int .i64 x16_1 ∧ Aside0 (railplankeep_Times.l0 kq x6_1 (y185.length : Int) x16_1 a0_0 l0_1 l0_2 t182 x185001_1 = some r) ∧ Aside0 (kq ≤ k) ∧ Aside0 (Kd.R (Kd.int .i64) 3 w' w.heap.size (fun _ => True) (.slice Ao12 y185.length co12) x6_1) ∧ Aside0 (w'.heap[gb181]? = some (.cells #[.int .i64 a0_0, (.slice A0_1 l0_1.length c0_1), (.slice A0_2 l0_2.length c0_2)] 26 (0, 0))) ∧ Aside0 (IsS61 w w' g184 t182 x185001_1) ∧ Aside0 (Below w.heap.size w w'))
      case atStart => exact ⟨(y185), (0), (t183), (by first | rfl | (simp; done) | (simp [*]; done)), H', ⟨Nat.le_refl _⟩, ⟨by (with_reducible repeat (first | apply Kd.R_alloc | apply Kd.R_drewN | apply Kd.R_drew)); exact HO187.out⟩, ⟨by (with_reducible repeat (first | refine blk_drewN ?_ _ | refine blk_drew ?_ | refine blk_alloc ?_ _)); exact BK181.out⟩, ⟨by repeat (first | (with_reducible first | exact HI184.out | apply IsS61.alloc | apply IsS61.drewN | apply IsS61.drew | apply IsS61.set_1 | refine IsS61.far ?_ NB184_181.out _) | exact HI184.out)⟩, ⟨by repeat (first | (with_reducible first | exact HB.out | apply below_alloc | apply pw_below_drewN | apply below_drew1 | refine below_set ?_ (IsS61.ge HI184.out) | refine below_set ?_ GE181.out) | exact HB.out)⟩⟩
      case round =>
        clear H'
        try clear c1
        try clear c2
        try clear p2
        try clear c4
        try clear c4b0
        try clear c4b1
        try clear c5
        try clear c5b0
        try clear c5b1
        try clear c8
        try clear hcz9_0
        try clear hcz9_1
        try clear hcz9_2
        try clear hfz9_0
        try clear hfz9_1
        try clear hfz9_2
        obtain ⟨x6_1, x16_1, x185001_1, rfl, HA, HK1, HO_6, BK181, HI184, HB⟩ := hrel
        have hl6_1 := (Kd.R_reads' HO_6.out).1
        rw [hl6_1] at HO_6
        (try simp only [hl6_1])
        (try simp only [hl6_1] at BK181)
        cases gk with
        | zero => exact absurd HA.out (by simp [railplankeep_Times.l0])
        | succ k1 =>
          have H := HA.out
          clear HA
          simp only [railplankeep_Times.l0] at H
          by_cases c13 : x16_1 < (y185.length : Int)
          · rw [if_pos c13] at H
            have c13b0 : decide (x16_1 < (y185.length : Int)) = true := decide_eq_true c13
            have c13b0h := c13b0
            (try simp only [hl6_1] at c13b0h)
            clear c13
            replace H := Option.bind_eq_some_iff.mp H
            obtain ⟨⟨t188, t189⟩, A140, H⟩ := H
            replace H : (if 0 ≤ x16_1 then (if x16_1 < (x6_1.length : Int) then (railplankeep_Times.l0 k1 (x6_1.set (x16_1 : Int).toNat t188) (y185.length : Int) (wrap64 (x16_1 + 1)) a0_0 l0_1 l0_2 t182 t189) else (none)) else (none)) = some r := H
            have A14 := Aside0.mk A140
            clear A140
            by_cases c15 : 0 ≤ x16_1
            · rw [if_pos c15] at H
              have c15b0 : decide (0 ≤ x16_1) = true := decide_eq_true c15
              have c15b0h := c15b0
              (try simp only [hl6_1] at c15b0h)
              clear c15
              by_cases c16 : x16_1 < (x6_1.length : Int)
              · rw [if_pos c16] at H
                have c16b0 : decide (x16_1 < (x6_1.length : Int)) = true := decide_eq_true c16
                have c16b0h := c16b0
                (try simp only [hl6_1] at c16b0h)
                clear c16
                obtain ⟨y190, hy190⟩ : ∃ y_ : List Int, y_ = (x6_1.set (x16_1 : Int).toNat t188) := ⟨_, rfl⟩
                replace H : (railplankeep_Times.l0 k1 y190 (y185.length : Int) (wrap64 (x16_1 + 1)) a0_0 l0_1 l0_2 t182 t189) = some r := by first | (rw [hy190]; with_reducible exact H) | (have H2_ := (Option.bind_some _ _).symm.trans H; rw [hy190]; with_reducible exact H2_) | (have H2_ := (Option.bind_some _ _).symm.trans H; with_reducible exact H2_) | with_reducible exact H | (rw [hy190]; exact H) | exact H
                have Ny190 := Aside0.mk hy190
                clear hy190
                have H' := Aside0.mk H
                clear H
                have hnb18 := NB181_184.out
                have hnc18 := NB184_181.out
                have hcz19_0 : wr.cell? ⟨gb181, 0, none⟩ = some (.int .i64 a0_0) := (blk_cell BK181.out 0).trans rfl
                have hcz19_1 : wr.cell? ⟨gb181, 1, none⟩ = some (.slice A0_1 l0_1.length c0_1) := (blk_cell BK181.out 1).trans rfl
                have hcz19_2 : wr.cell? ⟨gb181, 2, none⟩ = some (.slice A0_2 l0_2.length c0_2) := (blk_cell BK181.out 2).trans rfl
                have hfz19_0 := blk_frozen BK181.out 0
                have hfz19_1 := blk_frozen BK181.out 1
                have hfz19_2 := blk_frozen BK181.out 2
                go_wp2_with (first | ((with_reducible refine gate_callee (f := 23) rfl ?_); refine goesL_ (some 24) rfl rfl Try.func23 (by kernel_rfl) rfl #[.pointer (some ⟨g184, 0, none⟩), .int .i64 a0_0] rfl (by (try simp only [List.map_toArray, List.map_cons, List.map_nil]); first | done | rfl | (simp only [List.length_drop, List.length_take]; rfl)) ?_; (with_reducible refine (railplankeep_Source_Next.calls g184 t182 x185001_1 a0_0 t188 t189 w _ ?side1 ?side2 A14.out).mono ?_); (case side1 => repeat (first | (with_reducible first | exact HI184.out | apply IsS61.alloc | apply IsS61.drewN | apply IsS61.drew | apply IsS61.set_1 | refine IsS61.far ?_ NB184_181.out _) | exact HI184.out)); (case side2 => repeat (first | (with_reducible first | exact HB.out | apply below_alloc | apply pw_below_drewN | apply below_drew1 | refine below_set ?_ (IsS61.ge HI184.out) | refine below_set ?_ GE181.out) | exact HB.out)); rintro e w20 ⟨rfl, hi, hb, hk⟩; refine ⟨_, rfl, ?_⟩; have n0_ := Aside0.mk (Kd.R_mono (Kd.R_keep (IsS61.apart (show IsS61 w _ g184 t182 x185001_1 from by repeat (first | (with_reducible first | exact HI184.out | apply IsS61.alloc | apply IsS61.drewN | apply IsS61.drew | apply IsS61.set_1 | refine IsS61.far ?_ NB184_181.out _) | exact HI184.out)) (by (with_reducible repeat (first | apply Kd.R_alloc | apply Kd.R_drewN | apply Kd.R_drew)); exact HO_6.out) (by decide)) hk (fun _ h => h.2)) (fun _ h => h.1)); have n1_ := Aside0.mk (KeepBut.blk hk (g' := gb181) (o := .cells #[.int .i64 a0_0, .slice A0_1 l0_1.length c0_1, .slice A0_2 l0_2.length c0_2] 26 (0, 0)) (by (with_reducible repeat (first | refine blk_drewN ?_ _ | refine blk_drew ?_ | refine blk_alloc ?_ _)); exact BK181.out) NB181_184.out (by simp)); have n2_ := Aside0.mk (hb); have n3_ := Aside0.mk (hi); clear HO_6; clear BK181; clear HB; clear HI184; have HO_6 := n0_; have BK181 := n1_; have HB := n2_; have HI184 := n3_; clear n0_ n1_ n2_ n3_; (try clear hb); (try clear hb2); (try clear hk); (try clear hi); have p17 : 0 ≤ (x16_1 : Int) := of_decide_eq_true (by first | (with_reducible assumption) | assumption); have q17 : (x16_1 : Int) < ((x6_1.length : Int) : Int) := of_decide_eq_true (by first | (with_reducible assumption) | assumption); obtain ⟨go17, co17, eo17, gb17, gl17, cl17, HG17⟩ := Kd.R_form HO_6.out (by omega); (first | cases eo17 | (injection eo17 with ea_ en_ ec_; (first | subst ea_ | (injection ea_ with ea_; subst ea_)); subst ec_; clear en_)); have GB17 := Aside0.mk gb17; have GG17 := Aside0.mk HG17; clear gb17 gl17 HG17; obtain ⟨hx17_0, hf17_0⟩ := Kd.R_celln 0 HO_6.out (x16_1 : Int) p17 q17; replace p17 := eq_true p17; replace q17 := eq_true q17; obtain ⟨hy21_, hz21_⟩ := Kd.R_celln 0 HO_6.out (x16_1 : Int) (of_decide_eq_true (by first | (with_reducible assumption) | assumption)) (of_decide_eq_true (by first | (with_reducible assumption) | assumption)); have HP21 := Kd.R_putg HO_6.out (x16_1 : Int) t188) | ((with_reducible refine gate_store (t := 3) (p := 25) rfl ?_); refine store_event (t := 3) (p := 25) (v := ?vo_w22) (w1 := (w20.setCell ⟨go17, (x16_1 : Int).toNat, none⟩ (.int .i64 t188))) ?hg ?ho ?hn ?hr ?_; (case ho => rfl); (case hg => rfl); (case hn => rfl); (case hr => first | (go_simp; done) | (go_simp; rfl)); intro w22 hw; have hg : w20.grownBy w22 (some go17) := (by rw [hw]; exact HP21.2); have hp_ : Kd.R (Kd.int .i64) 3 w22 w.heap.size (fun _ => True) (.slice (some ⟨go17, 0, none⟩) x6_1.length co12) y190 := (by rw [hw, Ny190.out]; exact HP21.1); clear HP21; have n0_ := Aside0.mk (hp_); have n1_ := Aside0.mk (blk_grown (g := gb181) (o := .cells #[.int .i64 a0_0, .slice A0_1 l0_1.length c0_1, .slice A0_2 l0_2.length c0_2] 26 (0, 0)) (by (with_reducible repeat (first | refine blk_drewN ?_ _ | refine blk_drew ?_ | refine blk_alloc ?_ _)); exact BK181.out) hg (Kd.R_ne HO_6.out BK181.out (by decide))); have n2_ := Aside0.mk (IsS61.grown (show IsS61 w _ g184 t182 t189 from by repeat (first | (with_reducible first | exact HI184.out | apply IsS61.alloc | apply IsS61.drewN | apply IsS61.drew | apply IsS61.set_1 | refine IsS61.far ?_ NB184_181.out _) | exact HI184.out)) hg (IsS61.own_ne HI184.out HO_6.out (by decide))); have n3_ := Aside0.mk ((by rw [hw]; exact below_set (HB.out) GB17.out : Below w.heap.size w w22)); clear HO_6; clear BK181; clear HI184; clear HB; have HO_6 := n0_; have BK181 := n1_; have HI184 := n2_; have HB := n3_; clear n0_ n1_ n2_ n3_; clear hg hw hp_))
                (try simp only [← hl6_1])
                go_roundg k1
                case measure => have := HK1.out; omega
                case rel => exact ⟨(y190), (wrap64 (x16_1 + 1)), (t189), (by first | rfl | (simp; done) | (simp [*]; done)), H', ⟨by have := HK1.out; omega⟩, ⟨by (try simp only [hl6_1]); (with_reducible repeat (first | apply Kd.R_alloc | apply Kd.R_drewN | apply Kd.R_drew)); exact HO_6.out⟩, ⟨by (try simp only [hl6_1]); (with_reducible repeat (first | refine blk_drewN ?_ _ | refine blk_drew ?_ | refine blk_alloc ?_ _)); exact BK181.out⟩, ⟨by repeat (first | (with_reducible first | exact HI184.out | apply IsS61.alloc | apply IsS61.drewN | apply IsS61.drew | apply IsS61.set_1 | refine IsS61.far ?_ NB184_181.out _) | exact HI184.out)⟩, ⟨by repeat (first | (with_reducible first | exact HB.out | apply below_alloc | apply pw_below_drewN | apply below_drew1 | refine below_set ?_ (IsS61.ge HI184.out) | refine below_set ?_ GE181.out) | exact HB.out)⟩⟩
              · rw [if_neg c16] at H
                exact absurd H (by simp)
            · rw [if_neg c15] at H
              exact absurd H (by simp)
          · rw [if_neg c13] at H
            have c13b0 : decide (x16_1 < (y185.length : Int)) = false := decide_eq_false c13
            have c13b0h := c13b0
            (try simp only [hl6_1] at c13b0h)
            clear c13
            obtain rfl := Option.some.inj H
            go_wp2
            go_ret
            exact ⟨_, by first | rfl | (simp [errW_none, errW_some] <;> rfl) | (simp [*, errW_none, errW_some] <;> rfl), by (with_reducible repeat (first | apply Kd.R_alloc | apply Kd.R_drewN | apply Kd.R_drew)); exact HO_6.out, by repeat (first | (with_reducible first | exact HB.out | apply below_alloc | apply pw_below_drewN | apply below_drew1 | refine below_set ?_ (IsS61.ge HI184.out) | refine below_set ?_ GE181.out) | exact HB.out)⟩
    · rw [if_neg c5] at H
      exact absurd H (by simp)
  · rw [if_neg c4] at H
    exact absurd H (by simp)

end Go.Proofs.Ytapnkefhihgbbaa.PAll
