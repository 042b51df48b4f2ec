/-
  No cell of these rows narrows 'for every input' (looked for: loops, veiled, ifaces, maps, wideKeys, modest, calm, conditions, laid).
  DERIVED. THE GIVEN ROWS OF THIS SEAT. 7 by the template 'for every input the law returns true; each argument reads behind the call as it read before'; 0 by the template 'total and deterministic' (their statements: YtdgdjbehddeepaaTotals.lean).
  GIVEN WITH THE SEED: the statements are not yours to turn. If you find one false, say at which input.
  Laid BY PROGRAM, IN A SANDBOX (cutbox-rows.mjs): the forced cells as the released guide's own fill.sh prints them over the translation 990c2d37c1cfb9a0… (all of the seat's roots in one cut). By AI agents, Wed Nov 11 2026. No macro, syntax, notation, axiom, sorry.
-/
import Derived.Test.YtdgdjbehddeepaaChecked
import GoSem.Claim
import GoSem.ClaimJoined
import GoSem.ClaimMapViews
import Derived.JoinedTies
import Derived.KernelRfl
namespace Go.Proofs.Ytdgdjbehddeepaa
/- THE CELL 'sum', in the pinned program and in every row, IS THE sha256 OF THE DUMP (.gsa) THAT YtdgdjbehddeepaaProg.lean LOADS. Nothing in Lean hashes anything: it is a label: what it is worth is what the hold of that sum in a sandbox is worth. -/
noncomputable def Try.pinned : Pinned := { name := "ytdgdjbehddeepaa", sum := "990c2d37c1cfb9a0204ff3b4b09b4ca699571cb5e397f23594ce17174f9f5544", checked := Try.checked }
namespace Rows
def none {H : Type} : Left H := { results := [], args := [] }

/-- 'railplanlaw20.PlatformOverlapIsCommon': WHATEVER THE INPUT: true; the input reads as it did. -/
def platformOverlapIsCommonSpec : ChangeSpec := { name := "platformOverlapIsCommon", fn := fun _ => fun
  | [d1, d2] => { results := [.lit (.bool true)], args := [d1, d2] }
  | _ => none }
def platformOverlapIsCommonRow : OpenClaim := { program := "ytdgdjbehddeepaa", sum := "990c2d37c1cfb9a0204ff3b4b09b4ca699571cb5e397f23594ce17174f9f5544", func := "railplan/railplanlaw20.PlatformOverlapIsCommon", spec := "platformOverlapIsCommon", apart := false }
def PlatformOverlapIsCommonSaid : Prop := platformOverlapIsCommonRow.holds Try.pinned (OpenSpec.ofChange platformOverlapIsCommonSpec)

/-- ITS FALSE NEIGHBOUR: 'it returns false'. Refute it at one input. -/
def platformOverlapIsCommonWrong : ChangeSpec := { name := "platformOverlapIsCommon", fn := fun _ => fun
  | [d1, d2] => { results := [.lit (.bool false)], args := [d1, d2] }
  | _ => none }
def PlatformOverlapIsCommonWrongFalsely : Prop := platformOverlapIsCommonRow.holds Try.pinned (OpenSpec.ofChange platformOverlapIsCommonWrong)

/-- 'railplanlaw20.PlatformAssigns': WHATEVER THE INPUT: true; the input reads as it did. -/
def platformAssignsSpec : ChangeSpec := { name := "platformAssigns", fn := fun _ => fun
  | [d1, d2, d3] => { results := [.lit (.bool true)], args := [d1, d2, d3] }
  | _ => none }
def platformAssignsRow : OpenClaim := { program := "ytdgdjbehddeepaa", sum := "990c2d37c1cfb9a0204ff3b4b09b4ca699571cb5e397f23594ce17174f9f5544", func := "railplan/railplanlaw20.PlatformAssigns", spec := "platformAssigns", recurses := true, apart := false }
def PlatformAssignsSaid : Prop := platformAssignsRow.holds Try.pinned (OpenSpec.ofChange platformAssignsSpec)

/-- ITS FALSE NEIGHBOUR: 'it returns false'. Refute it at one input. -/
def platformAssignsWrong : ChangeSpec := { name := "platformAssigns", fn := fun _ => fun
  | [d1, d2, d3] => { results := [.lit (.bool false)], args := [d1, d2, d3] }
  | _ => none }
def PlatformAssignsWrongFalsely : Prop := platformAssignsRow.holds Try.pinned (OpenSpec.ofChange platformAssignsWrong)

/-- 'railplanlaw20.PlatformTooMany': WHATEVER THE INPUT: true; the input reads as it did. -/
def platformTooManySpec : ChangeSpec := { name := "platformTooMany", fn := fun _ => fun
  | [d1, d2, d3] => { results := [.lit (.bool true)], args := [d1, d2, d3] }
  | _ => none }
def platformTooManyRow : OpenClaim := { program := "ytdgdjbehddeepaa", sum := "990c2d37c1cfb9a0204ff3b4b09b4ca699571cb5e397f23594ce17174f9f5544", func := "railplan/railplanlaw20.PlatformTooMany", spec := "platformTooMany", recurses := true, apart := false }
def PlatformTooManySaid : Prop := platformTooManyRow.holds Try.pinned (OpenSpec.ofChange platformTooManySpec)

/-- ITS FALSE NEIGHBOUR: 'it returns false'. Refute it at one input. -/
def platformTooManyWrong : ChangeSpec := { name := "platformTooMany", fn := fun _ => fun
  | [d1, d2, d3] => { results := [.lit (.bool false)], args := [d1, d2, d3] }
  | _ => none }
def PlatformTooManyWrongFalsely : Prop := platformTooManyRow.holds Try.pinned (OpenSpec.ofChange platformTooManyWrong)

/-- 'railplanlaw20.PlatformExamples': WHATEVER THE INPUT: true; the input reads as it did. -/
def platformExamplesSpec : ChangeSpec := { name := "platformExamples", fn := fun _ => fun
  | [] => { results := [.lit (.bool true)], args := [] }
  | _ => none }
def platformExamplesRow : OpenClaim := { program := "ytdgdjbehddeepaa", sum := "990c2d37c1cfb9a0204ff3b4b09b4ca699571cb5e397f23594ce17174f9f5544", func := "railplan/railplanlaw20.PlatformExamples", spec := "platformExamples", recurses := true, apart := false }
def PlatformExamplesSaid : Prop := platformExamplesRow.holds Try.pinned (OpenSpec.ofChange platformExamplesSpec)

/-- ITS FALSE NEIGHBOUR: 'it returns false'. Refute it at one input. -/
def platformExamplesWrong : ChangeSpec := { name := "platformExamples", fn := fun _ => fun
  | [] => { results := [.lit (.bool false)], args := [] }
  | _ => none }
def PlatformExamplesWrongFalsely : Prop := platformExamplesRow.holds Try.pinned (OpenSpec.ofChange platformExamplesWrong)

/-- 'railplanlaw20.PlatformGenerated': WHATEVER THE INPUT: true; the input reads as it did. -/
def platformGeneratedSpec : ChangeSpec := { name := "platformGenerated", fn := fun _ => fun
  | [d1, d2, d3, d4] => { results := [.lit (.bool true)], args := [d1, d2, d3, d4] }
  | _ => none }
def platformGeneratedRow : OpenClaim := { program := "ytdgdjbehddeepaa", sum := "990c2d37c1cfb9a0204ff3b4b09b4ca699571cb5e397f23594ce17174f9f5544", func := "railplan/railplanlaw20.PlatformGenerated", spec := "platformGenerated", recurses := true, apart := false }
def PlatformGeneratedSaid : Prop := platformGeneratedRow.holds Try.pinned (OpenSpec.ofChange platformGeneratedSpec)

/-- ITS FALSE NEIGHBOUR: 'it returns false'. Refute it at one input. -/
def platformGeneratedWrong : ChangeSpec := { name := "platformGenerated", fn := fun _ => fun
  | [d1, d2, d3, d4] => { results := [.lit (.bool false)], args := [d1, d2, d3, d4] }
  | _ => none }
def PlatformGeneratedWrongFalsely : Prop := platformGeneratedRow.holds Try.pinned (OpenSpec.ofChange platformGeneratedWrong)

/-- 'railplanlaw20.PlatformExplains': WHATEVER THE INPUT: true; the input reads as it did. -/
def platformExplainsSpec : ChangeSpec := { name := "platformExplains", fn := fun _ => fun
  | [d1, d2, d3] => { results := [.lit (.bool true)], args := [d1, d2, d3] }
  | _ => none }
def platformExplainsRow : OpenClaim := { program := "ytdgdjbehddeepaa", sum := "990c2d37c1cfb9a0204ff3b4b09b4ca699571cb5e397f23594ce17174f9f5544", func := "railplan/railplanlaw20.PlatformExplains", spec := "platformExplains", recurses := true, apart := false }
def PlatformExplainsSaid : Prop := platformExplainsRow.holds Try.pinned (OpenSpec.ofChange platformExplainsSpec)

/-- ITS FALSE NEIGHBOUR: 'it returns false'. Refute it at one input. -/
def platformExplainsWrong : ChangeSpec := { name := "platformExplains", fn := fun _ => fun
  | [d1, d2, d3] => { results := [.lit (.bool false)], args := [d1, d2, d3] }
  | _ => none }
def PlatformExplainsWrongFalsely : Prop := platformExplainsRow.holds Try.pinned (OpenSpec.ofChange platformExplainsWrong)

/-- 'railplanlaw20.PlatformRaw': WHATEVER THE INPUT: true; the input reads as it did. -/
def platformRawSpec : ChangeSpec := { name := "platformRaw", fn := fun _ => fun
  | [d1, d2, d3, d4, d5, d6] => { results := [.lit (.bool true)], args := [d1, d2, d3, d4, d5, d6] }
  | _ => none }
def platformRawRow : OpenClaim := { program := "ytdgdjbehddeepaa", sum := "990c2d37c1cfb9a0204ff3b4b09b4ca699571cb5e397f23594ce17174f9f5544", func := "railplan/railplanlaw20.PlatformRaw", spec := "platformRaw", recurses := true, apart := false }
def PlatformRawSaid : Prop := platformRawRow.holds Try.pinned (OpenSpec.ofChange platformRawSpec)

/-- ITS FALSE NEIGHBOUR: 'it returns false'. Refute it at one input. -/
def platformRawWrong : ChangeSpec := { name := "platformRaw", fn := fun _ => fun
  | [d1, d2, d3, d4, d5, d6] => { results := [.lit (.bool false)], args := [d1, d2, d3, d4, d5, d6] }
  | _ => none }
def PlatformRawWrongFalsely : Prop := platformRawRow.holds Try.pinned (OpenSpec.ofChange platformRawWrong)

/- THE SECOND FORM. 'bulk': how many values and letters a reading holds, each counted each time it is reached (what is shared counts as often as it is met; a slice's spare places count too). A statement '..UptoSaid' is the law's where the arguments, and the package variables that the reading takes, are together of bulk at most 1048576: NARROWER than '..Said'. Prove '..Said' where nothing that the law and all that it calls make is longer than what came in: it says more and counts as full. Else prove '..UptoSaid'. A law counts once. -/
mutual
def uptoBulk {H : Type} : DataW H → Nat
  | .lit (.string bytes) => bytes.length + 1
  | .lit _ => 1
  | .nil => 1
  | .ptr d => uptoBulk d + 1
  | .slice elems spare => uptoBulkAll elems + uptoBulkAll spare + 1
  | .agg parts => uptoBulkAll parts + 1
  | .iface _ d => uptoBulk d + 1
  | .map entries => uptoBulkEntries entries + 1
  | .held _ => 1
def uptoBulkAll {H : Type} : List (DataW H) → Nat
  | [] => 0
  | d :: r => uptoBulk d + uptoBulkAll r
def uptoBulkEntries {H : Type} : List (Lit × DataW H) → Nat
  | [] => 0
  | x :: r => uptoBulkEntry x + uptoBulkEntries r
def uptoBulkEntry {H : Type} : Lit × DataW H → Nat
  | (.string bytes, d) => bytes.length + uptoBulk d + 1
  | (_, d) => uptoBulk d + 1
 end
def uptoSmall : (H : Type) → List (DataW H) → Bool := fun _ ds => decide (uptoBulkAll ds ≤ 1048576)
def OpenSpec.upto (s : _root_.Go.ChangeSpec) : _root_.Go.OpenSpec := { _root_.Go.OpenSpec.ofChange s with cond := some uptoSmall }

/-- 'railplanlaw20.PlatformOverlapIsCommon', WHERE WHAT IT READS IS OF BULK AT MOST 1048576: true; the input reads as it did. -/
def platformOverlapIsCommonUptoRow : OpenClaim := { program := "ytdgdjbehddeepaa", sum := "990c2d37c1cfb9a0204ff3b4b09b4ca699571cb5e397f23594ce17174f9f5544", func := "railplan/railplanlaw20.PlatformOverlapIsCommon", spec := "platformOverlapIsCommon", apart := false, narrowed := true }
def PlatformOverlapIsCommonUptoSaid : Prop := platformOverlapIsCommonUptoRow.holds Try.pinned (OpenSpec.upto platformOverlapIsCommonSpec)

/-- 'railplanlaw20.PlatformAssigns', WHERE WHAT IT READS IS OF BULK AT MOST 1048576: true; the input reads as it did. -/
def platformAssignsUptoRow : OpenClaim := { program := "ytdgdjbehddeepaa", sum := "990c2d37c1cfb9a0204ff3b4b09b4ca699571cb5e397f23594ce17174f9f5544", func := "railplan/railplanlaw20.PlatformAssigns", spec := "platformAssigns", recurses := true, apart := false, narrowed := true }
def PlatformAssignsUptoSaid : Prop := platformAssignsUptoRow.holds Try.pinned (OpenSpec.upto platformAssignsSpec)

/-- 'railplanlaw20.PlatformTooMany', WHERE WHAT IT READS IS OF BULK AT MOST 1048576: true; the input reads as it did. -/
def platformTooManyUptoRow : OpenClaim := { program := "ytdgdjbehddeepaa", sum := "990c2d37c1cfb9a0204ff3b4b09b4ca699571cb5e397f23594ce17174f9f5544", func := "railplan/railplanlaw20.PlatformTooMany", spec := "platformTooMany", recurses := true, apart := false, narrowed := true }
def PlatformTooManyUptoSaid : Prop := platformTooManyUptoRow.holds Try.pinned (OpenSpec.upto platformTooManySpec)

/-- 'railplanlaw20.PlatformExamples', WHERE WHAT IT READS IS OF BULK AT MOST 1048576: true; the input reads as it did. -/
def platformExamplesUptoRow : OpenClaim := { program := "ytdgdjbehddeepaa", sum := "990c2d37c1cfb9a0204ff3b4b09b4ca699571cb5e397f23594ce17174f9f5544", func := "railplan/railplanlaw20.PlatformExamples", spec := "platformExamples", recurses := true, apart := false, narrowed := true }
def PlatformExamplesUptoSaid : Prop := platformExamplesUptoRow.holds Try.pinned (OpenSpec.upto platformExamplesSpec)

/-- 'railplanlaw20.PlatformGenerated', WHERE WHAT IT READS IS OF BULK AT MOST 1048576: true; the input reads as it did. -/
def platformGeneratedUptoRow : OpenClaim := { program := "ytdgdjbehddeepaa", sum := "990c2d37c1cfb9a0204ff3b4b09b4ca699571cb5e397f23594ce17174f9f5544", func := "railplan/railplanlaw20.PlatformGenerated", spec := "platformGenerated", recurses := true, apart := false, narrowed := true }
def PlatformGeneratedUptoSaid : Prop := platformGeneratedUptoRow.holds Try.pinned (OpenSpec.upto platformGeneratedSpec)

/-- 'railplanlaw20.PlatformExplains', WHERE WHAT IT READS IS OF BULK AT MOST 1048576: true; the input reads as it did. -/
def platformExplainsUptoRow : OpenClaim := { program := "ytdgdjbehddeepaa", sum := "990c2d37c1cfb9a0204ff3b4b09b4ca699571cb5e397f23594ce17174f9f5544", func := "railplan/railplanlaw20.PlatformExplains", spec := "platformExplains", recurses := true, apart := false, narrowed := true }
def PlatformExplainsUptoSaid : Prop := platformExplainsUptoRow.holds Try.pinned (OpenSpec.upto platformExplainsSpec)

/-- 'railplanlaw20.PlatformRaw', WHERE WHAT IT READS IS OF BULK AT MOST 1048576: true; the input reads as it did. -/
def platformRawUptoRow : OpenClaim := { program := "ytdgdjbehddeepaa", sum := "990c2d37c1cfb9a0204ff3b4b09b4ca699571cb5e397f23594ce17174f9f5544", func := "railplan/railplanlaw20.PlatformRaw", spec := "platformRaw", recurses := true, apart := false, narrowed := true }
def PlatformRawUptoSaid : Prop := platformRawUptoRow.holds Try.pinned (OpenSpec.upto platformRawSpec)

end Rows
end Go.Proofs.Ytdgdjbehddeepaa
