/-
  No cell of these rows narrows 'for every input' (looked for: loops, veiled, ifaces, maps, wideKeys, modest, calm, conditions, laid).
  DERIVED. THE GIVEN ROWS OF THIS SEAT. 6 by the template 'for every input the law returns true; each argument reads behind the call as it read before'; 0 by the template 'total and deterministic' (their statements: YtapnkefhihgbbaaTotals.lean).
  GIVEN WITH THE SEED: the statements are not yours to turn. If you find one false, say at which input.
  Laid BY PROGRAM, IN A SANDBOX (cutbox-rows.mjs): the forced cells as the released guide's own fill.sh prints them over the translation b6c49a559efea602… (all of the seat's roots in one cut). By AI agents, Wed Nov 11 2026. No macro, syntax, notation, axiom, sorry.
-/
import Derived.Test.YtapnkefhihgbbaaChecked
import GoSem.Claim
import GoSem.ClaimJoined
import GoSem.ClaimMapViews
import Derived.JoinedTies
import Derived.KernelRfl
namespace Go.Proofs.Ytapnkefhihgbbaa
/- THE CELL 'sum', in the pinned program and in every row, IS THE sha256 OF THE DUMP (.gsa) THAT YtapnkefhihgbbaaProg.lean LOADS. Nothing in Lean hashes anything: it is a label: what it is worth is what the hold of that sum in a sandbox is worth. -/
noncomputable def Try.pinned : Pinned := { name := "ytapnkefhihgbbaa", sum := "b6c49a559efea602983a7d6c13f249c004798c9b97b751e7c9d9b7c96b885fac", checked := Try.checked }
namespace Rows
def none {H : Type} : Left H := { results := [], args := [] }

/-- 'railplanlaw11.NetworkMutations': WHATEVER THE INPUT: true; the input reads as it did. -/
def networkMutationsSpec : ChangeSpec := { name := "networkMutations", fn := fun _ => fun
  | [d1, d2, d3, d4, d5] => { results := [.lit (.bool true)], args := [d1, d2, d3, d4, d5] }
  | _ => none }
def networkMutationsRow : OpenClaim := { program := "ytapnkefhihgbbaa", sum := "b6c49a559efea602983a7d6c13f249c004798c9b97b751e7c9d9b7c96b885fac", func := "railplan/railplanlaw11.NetworkMutations", spec := "networkMutations", unfollowed := true, recurses := true, apart := false }
def NetworkMutationsSaid : Prop := networkMutationsRow.holds Try.pinned (OpenSpec.ofChange networkMutationsSpec)

/-- ITS FALSE NEIGHBOUR: 'it returns false'. Refute it at one input. -/
def networkMutationsWrong : ChangeSpec := { name := "networkMutations", fn := fun _ => fun
  | [d1, d2, d3, d4, d5] => { results := [.lit (.bool false)], args := [d1, d2, d3, d4, d5] }
  | _ => none }
def NetworkMutationsWrongFalsely : Prop := networkMutationsRow.holds Try.pinned (OpenSpec.ofChange networkMutationsWrong)

/-- 'railplanlaw11.NetworkDurations': WHATEVER THE INPUT: true; the input reads as it did. -/
def networkDurationsSpec : ChangeSpec := { name := "networkDurations", fn := fun _ => fun
  | [d1, d2] => { results := [.lit (.bool true)], args := [d1, d2] }
  | _ => none }
def networkDurationsRow : OpenClaim := { program := "ytapnkefhihgbbaa", sum := "b6c49a559efea602983a7d6c13f249c004798c9b97b751e7c9d9b7c96b885fac", func := "railplan/railplanlaw11.NetworkDurations", spec := "networkDurations", unfollowed := true, recurses := true, apart := false }
def NetworkDurationsSaid : Prop := networkDurationsRow.holds Try.pinned (OpenSpec.ofChange networkDurationsSpec)

/-- ITS FALSE NEIGHBOUR: 'it returns false'. Refute it at one input. -/
def networkDurationsWrong : ChangeSpec := { name := "networkDurations", fn := fun _ => fun
  | [d1, d2] => { results := [.lit (.bool false)], args := [d1, d2] }
  | _ => none }
def NetworkDurationsWrongFalsely : Prop := networkDurationsRow.holds Try.pinned (OpenSpec.ofChange networkDurationsWrong)

/-- 'railplanlaw11.NetworkShift': WHATEVER THE INPUT: true; the input reads as it did. -/
def networkShiftSpec : ChangeSpec := { name := "networkShift", fn := fun _ => fun
  | [d1, d2, d3] => { results := [.lit (.bool true)], args := [d1, d2, d3] }
  | _ => none }
def networkShiftRow : OpenClaim := { program := "ytapnkefhihgbbaa", sum := "b6c49a559efea602983a7d6c13f249c004798c9b97b751e7c9d9b7c96b885fac", func := "railplan/railplanlaw11.NetworkShift", spec := "networkShift", unfollowed := true, recurses := true, apart := false }
def NetworkShiftSaid : Prop := networkShiftRow.holds Try.pinned (OpenSpec.ofChange networkShiftSpec)

/-- ITS FALSE NEIGHBOUR: 'it returns false'. Refute it at one input. -/
def networkShiftWrong : ChangeSpec := { name := "networkShift", fn := fun _ => fun
  | [d1, d2, d3] => { results := [.lit (.bool false)], args := [d1, d2, d3] }
  | _ => none }
def NetworkShiftWrongFalsely : Prop := networkShiftRow.holds Try.pinned (OpenSpec.ofChange networkShiftWrong)

/-- 'railplanlaw11.NetworkExamples': WHATEVER THE INPUT: true; the input reads as it did. -/
def networkExamplesSpec : ChangeSpec := { name := "networkExamples", fn := fun _ => fun
  | [] => { results := [.lit (.bool true)], args := [] }
  | _ => none }
def networkExamplesRow : OpenClaim := { program := "ytapnkefhihgbbaa", sum := "b6c49a559efea602983a7d6c13f249c004798c9b97b751e7c9d9b7c96b885fac", func := "railplan/railplanlaw11.NetworkExamples", spec := "networkExamples", unfollowed := true, recurses := true, apart := false }
def NetworkExamplesSaid : Prop := networkExamplesRow.holds Try.pinned (OpenSpec.ofChange networkExamplesSpec)

/-- ITS FALSE NEIGHBOUR: 'it returns false'. Refute it at one input. -/
def networkExamplesWrong : ChangeSpec := { name := "networkExamples", fn := fun _ => fun
  | [] => { results := [.lit (.bool false)], args := [] }
  | _ => none }
def NetworkExamplesWrongFalsely : Prop := networkExamplesRow.holds Try.pinned (OpenSpec.ofChange networkExamplesWrong)

/-- 'railplanlaw11.NetworkRaw': WHATEVER THE INPUT: true; the input reads as it did. -/
def networkRawSpec : ChangeSpec := { name := "networkRaw", fn := fun _ => fun
  | [d1, d2, d3, d4] => { results := [.lit (.bool true)], args := [d1, d2, d3, d4] }
  | _ => none }
def networkRawRow : OpenClaim := { program := "ytapnkefhihgbbaa", sum := "b6c49a559efea602983a7d6c13f249c004798c9b97b751e7c9d9b7c96b885fac", func := "railplan/railplanlaw11.NetworkRaw", spec := "networkRaw", unfollowed := true, recurses := true, apart := false }
def NetworkRawSaid : Prop := networkRawRow.holds Try.pinned (OpenSpec.ofChange networkRawSpec)

/-- ITS FALSE NEIGHBOUR: 'it returns false'. Refute it at one input. -/
def networkRawWrong : ChangeSpec := { name := "networkRaw", fn := fun _ => fun
  | [d1, d2, d3, d4] => { results := [.lit (.bool false)], args := [d1, d2, d3, d4] }
  | _ => none }
def NetworkRawWrongFalsely : Prop := networkRawRow.holds Try.pinned (OpenSpec.ofChange networkRawWrong)

/-- 'railplanlaw11.NetworkGenerated': WHATEVER THE INPUT: true; the input reads as it did. -/
def networkGeneratedSpec : ChangeSpec := { name := "networkGenerated", fn := fun _ => fun
  | [d1, d2, d3, d4] => { results := [.lit (.bool true)], args := [d1, d2, d3, d4] }
  | _ => none }
def networkGeneratedRow : OpenClaim := { program := "ytapnkefhihgbbaa", sum := "b6c49a559efea602983a7d6c13f249c004798c9b97b751e7c9d9b7c96b885fac", func := "railplan/railplanlaw11.NetworkGenerated", spec := "networkGenerated", unfollowed := true, recurses := true, apart := false }
def NetworkGeneratedSaid : Prop := networkGeneratedRow.holds Try.pinned (OpenSpec.ofChange networkGeneratedSpec)

/-- ITS FALSE NEIGHBOUR: 'it returns false'. Refute it at one input. -/
def networkGeneratedWrong : ChangeSpec := { name := "networkGenerated", fn := fun _ => fun
  | [d1, d2, d3, d4] => { results := [.lit (.bool false)], args := [d1, d2, d3, d4] }
  | _ => none }
def NetworkGeneratedWrongFalsely : Prop := networkGeneratedRow.holds Try.pinned (OpenSpec.ofChange networkGeneratedWrong)

/- THE SECOND FORM. 'bulk': how many values and letters a reading holds, each counted each time it is reached (what is shared counts as often as it is met; a slice's spare places count too). A statement '..UptoSaid' is the law's where the arguments, and the package variables that the reading takes, are together of bulk at most 1048576: NARROWER than '..Said'. Prove '..Said' where nothing that the law and all that it calls make is longer than what came in: it says more and counts as full. Else prove '..UptoSaid'. A law counts once. -/
mutual
def uptoBulk {H : Type} : DataW H → Nat
  | .lit (.string bytes) => bytes.length + 1
  | .lit _ => 1
  | .nil => 1
  | .ptr d => uptoBulk d + 1
  | .slice elems spare => uptoBulkAll elems + uptoBulkAll spare + 1
  | .agg parts => uptoBulkAll parts + 1
  | .iface _ d => uptoBulk d + 1
  | .map entries => uptoBulkEntries entries + 1
  | .held _ => 1
def uptoBulkAll {H : Type} : List (DataW H) → Nat
  | [] => 0
  | d :: r => uptoBulk d + uptoBulkAll r
def uptoBulkEntries {H : Type} : List (Lit × DataW H) → Nat
  | [] => 0
  | x :: r => uptoBulkEntry x + uptoBulkEntries r
def uptoBulkEntry {H : Type} : Lit × DataW H → Nat
  | (.string bytes, d) => bytes.length + uptoBulk d + 1
  | (_, d) => uptoBulk d + 1
 end
def uptoSmall : (H : Type) → List (DataW H) → Bool := fun _ ds => decide (uptoBulkAll ds ≤ 1048576)
def OpenSpec.upto (s : _root_.Go.ChangeSpec) : _root_.Go.OpenSpec := { _root_.Go.OpenSpec.ofChange s with cond := some uptoSmall }

/-- 'railplanlaw11.NetworkMutations', WHERE WHAT IT READS IS OF BULK AT MOST 1048576: true; the input reads as it did. -/
def networkMutationsUptoRow : OpenClaim := { program := "ytapnkefhihgbbaa", sum := "b6c49a559efea602983a7d6c13f249c004798c9b97b751e7c9d9b7c96b885fac", func := "railplan/railplanlaw11.NetworkMutations", spec := "networkMutations", unfollowed := true, recurses := true, apart := false, narrowed := true }
def NetworkMutationsUptoSaid : Prop := networkMutationsUptoRow.holds Try.pinned (OpenSpec.upto networkMutationsSpec)

/-- 'railplanlaw11.NetworkDurations', WHERE WHAT IT READS IS OF BULK AT MOST 1048576: true; the input reads as it did. -/
def networkDurationsUptoRow : OpenClaim := { program := "ytapnkefhihgbbaa", sum := "b6c49a559efea602983a7d6c13f249c004798c9b97b751e7c9d9b7c96b885fac", func := "railplan/railplanlaw11.NetworkDurations", spec := "networkDurations", unfollowed := true, recurses := true, apart := false, narrowed := true }
def NetworkDurationsUptoSaid : Prop := networkDurationsUptoRow.holds Try.pinned (OpenSpec.upto networkDurationsSpec)

/-- 'railplanlaw11.NetworkShift', WHERE WHAT IT READS IS OF BULK AT MOST 1048576: true; the input reads as it did. -/
def networkShiftUptoRow : OpenClaim := { program := "ytapnkefhihgbbaa", sum := "b6c49a559efea602983a7d6c13f249c004798c9b97b751e7c9d9b7c96b885fac", func := "railplan/railplanlaw11.NetworkShift", spec := "networkShift", unfollowed := true, recurses := true, apart := false, narrowed := true }
def NetworkShiftUptoSaid : Prop := networkShiftUptoRow.holds Try.pinned (OpenSpec.upto networkShiftSpec)

/-- 'railplanlaw11.NetworkExamples', WHERE WHAT IT READS IS OF BULK AT MOST 1048576: true; the input reads as it did. -/
def networkExamplesUptoRow : OpenClaim := { program := "ytapnkefhihgbbaa", sum := "b6c49a559efea602983a7d6c13f249c004798c9b97b751e7c9d9b7c96b885fac", func := "railplan/railplanlaw11.NetworkExamples", spec := "networkExamples", unfollowed := true, recurses := true, apart := false, narrowed := true }
def NetworkExamplesUptoSaid : Prop := networkExamplesUptoRow.holds Try.pinned (OpenSpec.upto networkExamplesSpec)

/-- 'railplanlaw11.NetworkRaw', WHERE WHAT IT READS IS OF BULK AT MOST 1048576: true; the input reads as it did. -/
def networkRawUptoRow : OpenClaim := { program := "ytapnkefhihgbbaa", sum := "b6c49a559efea602983a7d6c13f249c004798c9b97b751e7c9d9b7c96b885fac", func := "railplan/railplanlaw11.NetworkRaw", spec := "networkRaw", unfollowed := true, recurses := true, apart := false, narrowed := true }
def NetworkRawUptoSaid : Prop := networkRawUptoRow.holds Try.pinned (OpenSpec.upto networkRawSpec)

/-- 'railplanlaw11.NetworkGenerated', WHERE WHAT IT READS IS OF BULK AT MOST 1048576: true; the input reads as it did. -/
def networkGeneratedUptoRow : OpenClaim := { program := "ytapnkefhihgbbaa", sum := "b6c49a559efea602983a7d6c13f249c004798c9b97b751e7c9d9b7c96b885fac", func := "railplan/railplanlaw11.NetworkGenerated", spec := "networkGenerated", unfollowed := true, recurses := true, apart := false, narrowed := true }
def NetworkGeneratedUptoSaid : Prop := networkGeneratedUptoRow.holds Try.pinned (OpenSpec.upto networkGeneratedSpec)

end Rows
end Go.Proofs.Ytapnkefhihgbbaa
