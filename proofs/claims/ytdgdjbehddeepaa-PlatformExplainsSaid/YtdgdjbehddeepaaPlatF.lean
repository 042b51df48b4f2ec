/- Plain facts about two visits: they overlap exactly if a residue belongs to both. No condition but those stated. -/
import Derived.Test.YtdgdjbehddeepaaPlatE
namespace Go.Proofs.Ytdgdjbehddeepaa.Pure
set_option linter.unusedVariables false
set_option linter.unusedSimpArgs false
open Go.RowKit Go.Proofs.Ytdgdjbehddeepaa.PAll Go.Proofs.YtdgdjbehddeepaaW.PrintWords Go.Proofs.YtdgdjbehddeepaaW.PrintLast
/-- Residue s belongs to a visit. -/
def holds (t : Int) (a : SV) (s : Int) : Bool := decide ((s - a.f0) % t < a.f1)
theorem ov_of_common (t : Int) (ht : 0 < t) (a b : SV) (s : Int) (ha : holds t a s = true) (hb : holds t b s = true) : ovB t a b = true := by
  unfold holds at ha hb
  have ha := of_decide_eq_true ha
  have hb := of_decide_eq_true hb
  unfold ovB
  rw [Bool.or_eq_true, decide_eq_true_eq, decide_eq_true_eq]
  have u0 := Int.emod_nonneg (s - a.f0) (show t ≠ 0 by omega)
  have u1 := Int.emod_lt_of_pos (s - a.f0) ht
  have w0 := Int.emod_nonneg (s - b.f0) (show t ≠ 0 by omega)
  have w1 := Int.emod_lt_of_pos (s - b.f0) ht
  have e1 : (b.f0 - a.f0) % t = ((s - a.f0) % t - (s - b.f0) % t) % t := by
    rw [← Int.sub_emod]; congr 1; omega
  have e2 : (a.f0 - b.f0) % t = ((s - b.f0) % t - (s - a.f0) % t) % t := by
    rw [← Int.sub_emod]; congr 1; omega
  by_cases h : (s - b.f0) % t ≤ (s - a.f0) % t
  · left; rw [e1, Int.emod_eq_of_lt (by omega) (by omega)]; omega
  · right; rw [e2, Int.emod_eq_of_lt (by omega) (by omega)]; omega
theorem common_of_ov (t : Int) (ht : 0 < t) (a b : SV) (a0 : 0 ≤ a.f0) (a1 : a.f0 < t) (a2 : 1 ≤ a.f1) (b0 : 0 ≤ b.f0) (b1 : b.f0 < t) (b2 : 1 ≤ b.f1) (h : ovB t a b = true) : ∃ s : Nat, (s : Int) < t ∧ holds t a s = true ∧ holds t b s = true := by
  unfold ovB at h
  rw [Bool.or_eq_true, decide_eq_true_eq, decide_eq_true_eq] at h
  unfold holds
  rcases h with h | h
  · refine ⟨b.f0.toNat, by omega, ?_, ?_⟩
    · rw [Int.toNat_of_nonneg b0]; exact decide_eq_true h
    · rw [Int.toNat_of_nonneg b0, Int.sub_self, Int.zero_emod]; exact decide_eq_true (by omega)
  · refine ⟨a.f0.toNat, by omega, ?_, ?_⟩
    · rw [Int.toNat_of_nonneg a0, Int.sub_self, Int.zero_emod]; exact decide_eq_true (by omega)
    · rw [Int.toNat_of_nonneg a0]; exact decide_eq_true h
def cmn (t : Int) (a b : SV) (n : Nat) : Bool := (List.range n).any fun j => holds t a j && holds t b j
theorem cmn_succ (t : Int) (a b : SV) (n : Nat) : cmn t a b (n + 1) = (cmn t a b n || (holds t a n && holds t b n)) := by
  unfold cmn; rw [List.range_succ, List.any_append]; simp
theorem cmn_eq (t : Int) (ht : 0 < t) (a b : SV) (ha : okG t a) (hb : okG t b) : cmn t a b t.toNat = ovB t a b := by
  rw [Bool.eq_iff_iff]
  unfold cmn
  rw [List.any_eq_true]
  constructor
  · rintro ⟨j, _, hj⟩
    rw [Bool.and_eq_true] at hj
    exact ov_of_common t ht a b j hj.1 hj.2
  · intro h
    obtain ⟨s, hs, h1, h2⟩ := common_of_ov t ht a b ha.1.1 ha.1.2 ha.2.1.1 hb.1.1 hb.1.2 hb.2.1.1 h
    exact ⟨s, List.mem_range.2 (by omega), by rw [h1, h2]; rfl⟩
theorem ovB_comm (t : Int) (a b : SV) : ovB t a b = ovB t b a := by unfold ovB; rw [Bool.or_comm]
theorem mem_rd (v : List SV) (i : Nat) (hi : i < v.length) : rd_T28 v i ∈ v := by
  rw [show rd_T28 v i = v.getD i z28 from rfl, List.getD_eq_getElem?_getD, List.getElem?_eq_getElem hi]
  exact List.getElem_mem hi
theorem OvB_ok (t : Int) (h1 : 2 ≤ t) (h2 : t ≤ 31) (a b : SV) (ha : okG t a) (hb : okG t b) : OvB t a b = ovB t a b := by
  unfold OvB
  rw [vld_pair, decide_eq_true h1, decide_eq_true (show t ≤ 7200 by omega), okG_okV t a ha, okG_okV t b hb]
  rfl
end Go.Proofs.Ytdgdjbehddeepaa.Pure
