/-
  No cell of these rows narrows 'for every input' (looked for: loops, veiled, ifaces, maps, wideKeys, modest, calm, conditions, laid).
  DERIVED. THE GIVEN ROWS OF THIS SEAT. 8 by the template 'for every input the law returns true; each argument reads behind the call as it read before'; 0 by the template 'total and deterministic' (their statements: YtgclfkgnkohgdaaTotals.lean).
  GIVEN WITH THE SEED: the statements are not yours to turn. If you find one false, say at which input.
  Laid BY PROGRAM, IN A SANDBOX (cutbox-rows.mjs): the forced cells as the released guide's own fill.sh prints them over the translation 4c64c0a78a857b7b… (all of the seat's roots in one cut). By AI agents, Wed Nov 11 2026. No macro, syntax, notation, axiom, sorry.
-/
import Derived.Test.YtgclfkgnkohgdaaChecked
import GoSem.Claim
import GoSem.ClaimJoined
import GoSem.ClaimMapViews
import Derived.JoinedTies
import Derived.KernelRfl
namespace Go.Proofs.Ytgclfkgnkohgdaa
/- THE CELL 'sum', in the pinned program and in every row, IS THE sha256 OF THE DUMP (.gsa) THAT YtgclfkgnkohgdaaProg.lean LOADS. Nothing in Lean hashes anything: it is a label: what it is worth is what the hold of that sum in a sandbox is worth. -/
noncomputable def Try.pinned : Pinned := { name := "ytgclfkgnkohgdaa", sum := "4c64c0a78a857b7be8d1a13f3052c0acf8d650f5741630cdc7cf45219456061c", checked := Try.checked }
namespace Rows
def none {H : Type} : Left H := { results := [], args := [] }

/-- 'flightdecklaw51.VerticalCommands': WHATEVER THE INPUT: true; the input reads as it did. -/
def verticalCommandsSpec : ChangeSpec := { name := "verticalCommands", fn := fun _ => fun
  | [d1, d2, d3] => { results := [.lit (.bool true)], args := [d1, d2, d3] }
  | _ => none }
def verticalCommandsRow : OpenClaim := { program := "ytgclfkgnkohgdaa", sum := "4c64c0a78a857b7be8d1a13f3052c0acf8d650f5741630cdc7cf45219456061c", func := "flightdeck/flightdecklaw51.VerticalCommands", spec := "verticalCommands", named := ["math/bits.divideError", "math/bits.overflowError"], apart := false }
def VerticalCommandsSaid : Prop := verticalCommandsRow.holds Try.pinned (OpenSpec.ofChange verticalCommandsSpec)

/-- ITS FALSE NEIGHBOUR: 'it returns false'. Refute it at one input. -/
def verticalCommandsWrong : ChangeSpec := { name := "verticalCommands", fn := fun _ => fun
  | [d1, d2, d3] => { results := [.lit (.bool false)], args := [d1, d2, d3] }
  | _ => none }
def VerticalCommandsWrongFalsely : Prop := verticalCommandsRow.holds Try.pinned (OpenSpec.ofChange verticalCommandsWrong)

/-- 'flightdecklaw51.VerticalNears': WHATEVER THE INPUT: true; the input reads as it did. -/
def verticalNearsSpec : ChangeSpec := { name := "verticalNears", fn := fun _ => fun
  | [d1, d2, d3] => { results := [.lit (.bool true)], args := [d1, d2, d3] }
  | _ => none }
def verticalNearsRow : OpenClaim := { program := "ytgclfkgnkohgdaa", sum := "4c64c0a78a857b7be8d1a13f3052c0acf8d650f5741630cdc7cf45219456061c", func := "flightdeck/flightdecklaw51.VerticalNears", spec := "verticalNears", named := ["math/bits.divideError", "math/bits.overflowError"], apart := false }
def VerticalNearsSaid : Prop := verticalNearsRow.holds Try.pinned (OpenSpec.ofChange verticalNearsSpec)

/-- ITS FALSE NEIGHBOUR: 'it returns false'. Refute it at one input. -/
def verticalNearsWrong : ChangeSpec := { name := "verticalNears", fn := fun _ => fun
  | [d1, d2, d3] => { results := [.lit (.bool false)], args := [d1, d2, d3] }
  | _ => none }
def VerticalNearsWrongFalsely : Prop := verticalNearsRow.holds Try.pinned (OpenSpec.ofChange verticalNearsWrong)

/-- 'flightdecklaw51.VerticalReaches': WHATEVER THE INPUT: true; the input reads as it did. -/
def verticalReachesSpec : ChangeSpec := { name := "verticalReaches", fn := fun _ => fun
  | [d1, d2, d3] => { results := [.lit (.bool true)], args := [d1, d2, d3] }
  | _ => none }
def verticalReachesRow : OpenClaim := { program := "ytgclfkgnkohgdaa", sum := "4c64c0a78a857b7be8d1a13f3052c0acf8d650f5741630cdc7cf45219456061c", func := "flightdeck/flightdecklaw51.VerticalReaches", spec := "verticalReaches", named := ["math/bits.divideError", "math/bits.overflowError"], apart := false }
def VerticalReachesSaid : Prop := verticalReachesRow.holds Try.pinned (OpenSpec.ofChange verticalReachesSpec)

/-- ITS FALSE NEIGHBOUR: 'it returns false'. Refute it at one input. -/
def verticalReachesWrong : ChangeSpec := { name := "verticalReaches", fn := fun _ => fun
  | [d1, d2, d3] => { results := [.lit (.bool false)], args := [d1, d2, d3] }
  | _ => none }
def VerticalReachesWrongFalsely : Prop := verticalReachesRow.holds Try.pinned (OpenSpec.ofChange verticalReachesWrong)

/-- 'flightdecklaw51.VerticalSmooth': WHATEVER THE INPUT: true; the input reads as it did. -/
def verticalSmoothSpec : ChangeSpec := { name := "verticalSmooth", fn := fun _ => fun
  | [d1, d2] => { results := [.lit (.bool true)], args := [d1, d2] }
  | _ => none }
def verticalSmoothRow : OpenClaim := { program := "ytgclfkgnkohgdaa", sum := "4c64c0a78a857b7be8d1a13f3052c0acf8d650f5741630cdc7cf45219456061c", func := "flightdeck/flightdecklaw51.VerticalSmooth", spec := "verticalSmooth", named := ["math/bits.divideError", "math/bits.overflowError"], apart := false }
def VerticalSmoothSaid : Prop := verticalSmoothRow.holds Try.pinned (OpenSpec.ofChange verticalSmoothSpec)

/-- ITS FALSE NEIGHBOUR: 'it returns false'. Refute it at one input. -/
def verticalSmoothWrong : ChangeSpec := { name := "verticalSmooth", fn := fun _ => fun
  | [d1, d2] => { results := [.lit (.bool false)], args := [d1, d2] }
  | _ => none }
def VerticalSmoothWrongFalsely : Prop := verticalSmoothRow.holds Try.pinned (OpenSpec.ofChange verticalSmoothWrong)

/-- 'flightdecklaw51.VerticalCaptures': WHATEVER THE INPUT: true; the input reads as it did. -/
def verticalCapturesSpec : ChangeSpec := { name := "verticalCaptures", fn := fun _ => fun
  | [d1, d2, d3] => { results := [.lit (.bool true)], args := [d1, d2, d3] }
  | _ => none }
def verticalCapturesRow : OpenClaim := { program := "ytgclfkgnkohgdaa", sum := "4c64c0a78a857b7be8d1a13f3052c0acf8d650f5741630cdc7cf45219456061c", func := "flightdeck/flightdecklaw51.VerticalCaptures", spec := "verticalCaptures", named := ["math/bits.divideError", "math/bits.overflowError"], apart := false }
def VerticalCapturesSaid : Prop := verticalCapturesRow.holds Try.pinned (OpenSpec.ofChange verticalCapturesSpec)

/-- ITS FALSE NEIGHBOUR: 'it returns false'. Refute it at one input. -/
def verticalCapturesWrong : ChangeSpec := { name := "verticalCaptures", fn := fun _ => fun
  | [d1, d2, d3] => { results := [.lit (.bool false)], args := [d1, d2, d3] }
  | _ => none }
def VerticalCapturesWrongFalsely : Prop := verticalCapturesRow.holds Try.pinned (OpenSpec.ofChange verticalCapturesWrong)

/-- 'flightdecklaw51.VerticalMirror': WHATEVER THE INPUT: true; the input reads as it did. -/
def verticalMirrorSpec : ChangeSpec := { name := "verticalMirror", fn := fun _ => fun
  | [d1, d2, d3] => { results := [.lit (.bool true)], args := [d1, d2, d3] }
  | _ => none }
def verticalMirrorRow : OpenClaim := { program := "ytgclfkgnkohgdaa", sum := "4c64c0a78a857b7be8d1a13f3052c0acf8d650f5741630cdc7cf45219456061c", func := "flightdeck/flightdecklaw51.VerticalMirror", spec := "verticalMirror", named := ["math/bits.divideError", "math/bits.overflowError"], apart := false }
def VerticalMirrorSaid : Prop := verticalMirrorRow.holds Try.pinned (OpenSpec.ofChange verticalMirrorSpec)

/-- ITS FALSE NEIGHBOUR: 'it returns false'. Refute it at one input. -/
def verticalMirrorWrong : ChangeSpec := { name := "verticalMirror", fn := fun _ => fun
  | [d1, d2, d3] => { results := [.lit (.bool false)], args := [d1, d2, d3] }
  | _ => none }
def VerticalMirrorWrongFalsely : Prop := verticalMirrorRow.holds Try.pinned (OpenSpec.ofChange verticalMirrorWrong)

/-- 'flightdecklaw51.VerticalNodes': WHATEVER THE INPUT: true; the input reads as it did. -/
def verticalNodesSpec : ChangeSpec := { name := "verticalNodes", fn := fun _ => fun
  | [d1, d2, d3] => { results := [.lit (.bool true)], args := [d1, d2, d3] }
  | _ => none }
def verticalNodesRow : OpenClaim := { program := "ytgclfkgnkohgdaa", sum := "4c64c0a78a857b7be8d1a13f3052c0acf8d650f5741630cdc7cf45219456061c", func := "flightdeck/flightdecklaw51.VerticalNodes", spec := "verticalNodes", named := ["math/bits.divideError", "math/bits.overflowError"], apart := false }
def VerticalNodesSaid : Prop := verticalNodesRow.holds Try.pinned (OpenSpec.ofChange verticalNodesSpec)

/-- ITS FALSE NEIGHBOUR: 'it returns false'. Refute it at one input. -/
def verticalNodesWrong : ChangeSpec := { name := "verticalNodes", fn := fun _ => fun
  | [d1, d2, d3] => { results := [.lit (.bool false)], args := [d1, d2, d3] }
  | _ => none }
def VerticalNodesWrongFalsely : Prop := verticalNodesRow.holds Try.pinned (OpenSpec.ofChange verticalNodesWrong)

/-- 'flightdecklaw51.VerticalAlong': WHATEVER THE INPUT: true; the input reads as it did. -/
def verticalAlongSpec : ChangeSpec := { name := "verticalAlong", fn := fun _ => fun
  | [d1, d2, d3] => { results := [.lit (.bool true)], args := [d1, d2, d3] }
  | _ => none }
def verticalAlongRow : OpenClaim := { program := "ytgclfkgnkohgdaa", sum := "4c64c0a78a857b7be8d1a13f3052c0acf8d650f5741630cdc7cf45219456061c", func := "flightdeck/flightdecklaw51.VerticalAlong", spec := "verticalAlong", named := ["math/bits.divideError", "math/bits.overflowError"], apart := false }
def VerticalAlongSaid : Prop := verticalAlongRow.holds Try.pinned (OpenSpec.ofChange verticalAlongSpec)

/-- ITS FALSE NEIGHBOUR: 'it returns false'. Refute it at one input. -/
def verticalAlongWrong : ChangeSpec := { name := "verticalAlong", fn := fun _ => fun
  | [d1, d2, d3] => { results := [.lit (.bool false)], args := [d1, d2, d3] }
  | _ => none }
def VerticalAlongWrongFalsely : Prop := verticalAlongRow.holds Try.pinned (OpenSpec.ofChange verticalAlongWrong)

/- THE SECOND FORM. 'bulk': how many values and letters a reading holds, each counted each time it is reached (what is shared counts as often as it is met; a slice's spare places count too). A statement '..UptoSaid' is the law's where the arguments, and the package variables that the reading takes, are together of bulk at most 1048576: NARROWER than '..Said'. Prove '..Said' where nothing that the law and all that it calls make is longer than what came in: it says more and counts as full. Else prove '..UptoSaid'. A law counts once. -/
mutual
def uptoBulk {H : Type} : DataW H → Nat
  | .lit (.string bytes) => bytes.length + 1
  | .lit _ => 1
  | .nil => 1
  | .ptr d => uptoBulk d + 1
  | .slice elems spare => uptoBulkAll elems + uptoBulkAll spare + 1
  | .agg parts => uptoBulkAll parts + 1
  | .iface _ d => uptoBulk d + 1
  | .map entries => uptoBulkEntries entries + 1
  | .held _ => 1
def uptoBulkAll {H : Type} : List (DataW H) → Nat
  | [] => 0
  | d :: r => uptoBulk d + uptoBulkAll r
def uptoBulkEntries {H : Type} : List (Lit × DataW H) → Nat
  | [] => 0
  | x :: r => uptoBulkEntry x + uptoBulkEntries r
def uptoBulkEntry {H : Type} : Lit × DataW H → Nat
  | (.string bytes, d) => bytes.length + uptoBulk d + 1
  | (_, d) => uptoBulk d + 1
 end
def uptoSmall : (H : Type) → List (DataW H) → Bool := fun _ ds => decide (uptoBulkAll ds ≤ 1048576)
def OpenSpec.upto (s : _root_.Go.ChangeSpec) : _root_.Go.OpenSpec := { _root_.Go.OpenSpec.ofChange s with cond := some uptoSmall }

/-- 'flightdecklaw51.VerticalCommands', WHERE WHAT IT READS IS OF BULK AT MOST 1048576: true; the input reads as it did. -/
def verticalCommandsUptoRow : OpenClaim := { program := "ytgclfkgnkohgdaa", sum := "4c64c0a78a857b7be8d1a13f3052c0acf8d650f5741630cdc7cf45219456061c", func := "flightdeck/flightdecklaw51.VerticalCommands", spec := "verticalCommands", named := ["math/bits.divideError", "math/bits.overflowError"], apart := false, narrowed := true }
def VerticalCommandsUptoSaid : Prop := verticalCommandsUptoRow.holds Try.pinned (OpenSpec.upto verticalCommandsSpec)

/-- 'flightdecklaw51.VerticalNears', WHERE WHAT IT READS IS OF BULK AT MOST 1048576: true; the input reads as it did. -/
def verticalNearsUptoRow : OpenClaim := { program := "ytgclfkgnkohgdaa", sum := "4c64c0a78a857b7be8d1a13f3052c0acf8d650f5741630cdc7cf45219456061c", func := "flightdeck/flightdecklaw51.VerticalNears", spec := "verticalNears", named := ["math/bits.divideError", "math/bits.overflowError"], apart := false, narrowed := true }
def VerticalNearsUptoSaid : Prop := verticalNearsUptoRow.holds Try.pinned (OpenSpec.upto verticalNearsSpec)

/-- 'flightdecklaw51.VerticalReaches', WHERE WHAT IT READS IS OF BULK AT MOST 1048576: true; the input reads as it did. -/
def verticalReachesUptoRow : OpenClaim := { program := "ytgclfkgnkohgdaa", sum := "4c64c0a78a857b7be8d1a13f3052c0acf8d650f5741630cdc7cf45219456061c", func := "flightdeck/flightdecklaw51.VerticalReaches", spec := "verticalReaches", named := ["math/bits.divideError", "math/bits.overflowError"], apart := false, narrowed := true }
def VerticalReachesUptoSaid : Prop := verticalReachesUptoRow.holds Try.pinned (OpenSpec.upto verticalReachesSpec)

/-- 'flightdecklaw51.VerticalSmooth', WHERE WHAT IT READS IS OF BULK AT MOST 1048576: true; the input reads as it did. -/
def verticalSmoothUptoRow : OpenClaim := { program := "ytgclfkgnkohgdaa", sum := "4c64c0a78a857b7be8d1a13f3052c0acf8d650f5741630cdc7cf45219456061c", func := "flightdeck/flightdecklaw51.VerticalSmooth", spec := "verticalSmooth", named := ["math/bits.divideError", "math/bits.overflowError"], apart := false, narrowed := true }
def VerticalSmoothUptoSaid : Prop := verticalSmoothUptoRow.holds Try.pinned (OpenSpec.upto verticalSmoothSpec)

/-- 'flightdecklaw51.VerticalCaptures', WHERE WHAT IT READS IS OF BULK AT MOST 1048576: true; the input reads as it did. -/
def verticalCapturesUptoRow : OpenClaim := { program := "ytgclfkgnkohgdaa", sum := "4c64c0a78a857b7be8d1a13f3052c0acf8d650f5741630cdc7cf45219456061c", func := "flightdeck/flightdecklaw51.VerticalCaptures", spec := "verticalCaptures", named := ["math/bits.divideError", "math/bits.overflowError"], apart := false, narrowed := true }
def VerticalCapturesUptoSaid : Prop := verticalCapturesUptoRow.holds Try.pinned (OpenSpec.upto verticalCapturesSpec)

/-- 'flightdecklaw51.VerticalMirror', WHERE WHAT IT READS IS OF BULK AT MOST 1048576: true; the input reads as it did. -/
def verticalMirrorUptoRow : OpenClaim := { program := "ytgclfkgnkohgdaa", sum := "4c64c0a78a857b7be8d1a13f3052c0acf8d650f5741630cdc7cf45219456061c", func := "flightdeck/flightdecklaw51.VerticalMirror", spec := "verticalMirror", named := ["math/bits.divideError", "math/bits.overflowError"], apart := false, narrowed := true }
def VerticalMirrorUptoSaid : Prop := verticalMirrorUptoRow.holds Try.pinned (OpenSpec.upto verticalMirrorSpec)

/-- 'flightdecklaw51.VerticalNodes', WHERE WHAT IT READS IS OF BULK AT MOST 1048576: true; the input reads as it did. -/
def verticalNodesUptoRow : OpenClaim := { program := "ytgclfkgnkohgdaa", sum := "4c64c0a78a857b7be8d1a13f3052c0acf8d650f5741630cdc7cf45219456061c", func := "flightdeck/flightdecklaw51.VerticalNodes", spec := "verticalNodes", named := ["math/bits.divideError", "math/bits.overflowError"], apart := false, narrowed := true }
def VerticalNodesUptoSaid : Prop := verticalNodesUptoRow.holds Try.pinned (OpenSpec.upto verticalNodesSpec)

/-- 'flightdecklaw51.VerticalAlong', WHERE WHAT IT READS IS OF BULK AT MOST 1048576: true; the input reads as it did. -/
def verticalAlongUptoRow : OpenClaim := { program := "ytgclfkgnkohgdaa", sum := "4c64c0a78a857b7be8d1a13f3052c0acf8d650f5741630cdc7cf45219456061c", func := "flightdeck/flightdecklaw51.VerticalAlong", spec := "verticalAlong", named := ["math/bits.divideError", "math/bits.overflowError"], apart := false, narrowed := true }
def VerticalAlongUptoSaid : Prop := verticalAlongUptoRow.holds Try.pinned (OpenSpec.upto verticalAlongSpec)

end Rows
end Go.Proofs.Ytgclfkgnkohgdaa
