/-
  No cell of these rows narrows 'for every input' (looked for: loops, veiled, ifaces, maps, wideKeys, modest, calm, conditions, laid).
  DERIVED. THE GIVEN ROWS OF THIS SEAT. 6 by the template 'for every input the law returns true; each argument reads behind the call as it read before'; 0 by the template 'total and deterministic' (their statements: YtcmdpfdhmbpahaaTotals.lean).
  GIVEN WITH THE SEED: the statements are not yours to turn. If you find one false, say at which input.
  Laid BY PROGRAM, IN A SANDBOX (cutbox-rows.mjs): the forced cells as the released guide's own fill.sh prints them over the translation e4e3e70b633ef12f… (all of the seat's roots in one cut). By AI agents, Wed Nov 11 2026. No macro, syntax, notation, axiom, sorry.
-/
import Derived.Test.YtcmdpfdhmbpahaaChecked
import GoSem.Claim
import GoSem.ClaimJoined
import GoSem.ClaimMapViews
import Derived.JoinedTies
import Derived.KernelRfl
namespace Go.Proofs.Ytcmdpfdhmbpahaa
/- THE CELL 'sum', in the pinned program and in every row, IS THE sha256 OF THE DUMP (.gsa) THAT YtcmdpfdhmbpahaaProg.lean LOADS. Nothing in Lean hashes anything: it is a label: what it is worth is what the hold of that sum in a sandbox is worth. -/
noncomputable def Try.pinned : Pinned := { name := "ytcmdpfdhmbpahaa", sum := "e4e3e70b633ef12ff47861a03197c4baa02a6c0eb1c39a716de5c42f0c46e122", checked := Try.checked }
namespace Rows
def none {H : Type} : Left H := { results := [], args := [] }

/-- 'flightdecklaw59.SimulatorMoves': WHATEVER THE INPUT: true; the input reads as it did. -/
def simulatorMovesSpec : ChangeSpec := { name := "simulatorMoves", fn := fun _ => fun
  | [d1, d2] => { results := [.lit (.bool true)], args := [d1, d2] }
  | _ => none }
def simulatorMovesRow : OpenClaim := { program := "ytcmdpfdhmbpahaa", sum := "e4e3e70b633ef12ff47861a03197c4baa02a6c0eb1c39a716de5c42f0c46e122", func := "flightdeck/flightdecklaw59.SimulatorMoves", spec := "simulatorMoves", unfollowed := true, recurses := true, named := ["math/bits.divideError", "math/bits.overflowError"], apart := false }
def SimulatorMovesSaid : Prop := simulatorMovesRow.holds Try.pinned (OpenSpec.ofChange simulatorMovesSpec)

/-- ITS FALSE NEIGHBOUR: 'it returns false'. Refute it at one input. -/
def simulatorMovesWrong : ChangeSpec := { name := "simulatorMoves", fn := fun _ => fun
  | [d1, d2] => { results := [.lit (.bool false)], args := [d1, d2] }
  | _ => none }
def SimulatorMovesWrongFalsely : Prop := simulatorMovesRow.holds Try.pinned (OpenSpec.ofChange simulatorMovesWrong)

/-- 'flightdecklaw59.SimulatorMeasures': WHATEVER THE INPUT: true; the input reads as it did. -/
def simulatorMeasuresSpec : ChangeSpec := { name := "simulatorMeasures", fn := fun _ => fun
  | [d1, d2, d3] => { results := [.lit (.bool true)], args := [d1, d2, d3] }
  | _ => none }
def simulatorMeasuresRow : OpenClaim := { program := "ytcmdpfdhmbpahaa", sum := "e4e3e70b633ef12ff47861a03197c4baa02a6c0eb1c39a716de5c42f0c46e122", func := "flightdeck/flightdecklaw59.SimulatorMeasures", spec := "simulatorMeasures", unfollowed := true, recurses := true, named := ["math/bits.divideError", "math/bits.overflowError"], apart := false }
def SimulatorMeasuresSaid : Prop := simulatorMeasuresRow.holds Try.pinned (OpenSpec.ofChange simulatorMeasuresSpec)

/-- ITS FALSE NEIGHBOUR: 'it returns false'. Refute it at one input. -/
def simulatorMeasuresWrong : ChangeSpec := { name := "simulatorMeasures", fn := fun _ => fun
  | [d1, d2, d3] => { results := [.lit (.bool false)], args := [d1, d2, d3] }
  | _ => none }
def SimulatorMeasuresWrongFalsely : Prop := simulatorMeasuresRow.holds Try.pinned (OpenSpec.ofChange simulatorMeasuresWrong)

/-- 'flightdecklaw59.SimulatorChecks': WHATEVER THE INPUT: true; the input reads as it did. -/
def simulatorChecksSpec : ChangeSpec := { name := "simulatorChecks", fn := fun _ => fun
  | [d1, d2, d3] => { results := [.lit (.bool true)], args := [d1, d2, d3] }
  | _ => none }
def simulatorChecksRow : OpenClaim := { program := "ytcmdpfdhmbpahaa", sum := "e4e3e70b633ef12ff47861a03197c4baa02a6c0eb1c39a716de5c42f0c46e122", func := "flightdeck/flightdecklaw59.SimulatorChecks", spec := "simulatorChecks", unfollowed := true, recurses := true, named := ["math/bits.divideError", "math/bits.overflowError"], apart := false }
def SimulatorChecksSaid : Prop := simulatorChecksRow.holds Try.pinned (OpenSpec.ofChange simulatorChecksSpec)

/-- ITS FALSE NEIGHBOUR: 'it returns false'. Refute it at one input. -/
def simulatorChecksWrong : ChangeSpec := { name := "simulatorChecks", fn := fun _ => fun
  | [d1, d2, d3] => { results := [.lit (.bool false)], args := [d1, d2, d3] }
  | _ => none }
def SimulatorChecksWrongFalsely : Prop := simulatorChecksRow.holds Try.pinned (OpenSpec.ofChange simulatorChecksWrong)

/-- 'flightdecklaw59.SimulatorSound': WHATEVER THE INPUT: true; the input reads as it did. -/
def simulatorSoundSpec : ChangeSpec := { name := "simulatorSound", fn := fun _ => fun
  | [d1, d2, d3] => { results := [.lit (.bool true)], args := [d1, d2, d3] }
  | _ => none }
def simulatorSoundRow : OpenClaim := { program := "ytcmdpfdhmbpahaa", sum := "e4e3e70b633ef12ff47861a03197c4baa02a6c0eb1c39a716de5c42f0c46e122", func := "flightdeck/flightdecklaw59.SimulatorSound", spec := "simulatorSound", unfollowed := true, recurses := true, named := ["math/bits.divideError", "math/bits.overflowError"], apart := false }
def SimulatorSoundSaid : Prop := simulatorSoundRow.holds Try.pinned (OpenSpec.ofChange simulatorSoundSpec)

/-- ITS FALSE NEIGHBOUR: 'it returns false'. Refute it at one input. -/
def simulatorSoundWrong : ChangeSpec := { name := "simulatorSound", fn := fun _ => fun
  | [d1, d2, d3] => { results := [.lit (.bool false)], args := [d1, d2, d3] }
  | _ => none }
def SimulatorSoundWrongFalsely : Prop := simulatorSoundRow.holds Try.pinned (OpenSpec.ofChange simulatorSoundWrong)

/-- 'flightdecklaw59.SimulatorRails': WHATEVER THE INPUT: true; the input reads as it did. -/
def simulatorRailsSpec : ChangeSpec := { name := "simulatorRails", fn := fun _ => fun
  | [d1, d2, d3] => { results := [.lit (.bool true)], args := [d1, d2, d3] }
  | _ => none }
def simulatorRailsRow : OpenClaim := { program := "ytcmdpfdhmbpahaa", sum := "e4e3e70b633ef12ff47861a03197c4baa02a6c0eb1c39a716de5c42f0c46e122", func := "flightdeck/flightdecklaw59.SimulatorRails", spec := "simulatorRails", unfollowed := true, recurses := true, named := ["math/bits.divideError", "math/bits.overflowError"], apart := false }
def SimulatorRailsSaid : Prop := simulatorRailsRow.holds Try.pinned (OpenSpec.ofChange simulatorRailsSpec)

/-- ITS FALSE NEIGHBOUR: 'it returns false'. Refute it at one input. -/
def simulatorRailsWrong : ChangeSpec := { name := "simulatorRails", fn := fun _ => fun
  | [d1, d2, d3] => { results := [.lit (.bool false)], args := [d1, d2, d3] }
  | _ => none }
def SimulatorRailsWrongFalsely : Prop := simulatorRailsRow.holds Try.pinned (OpenSpec.ofChange simulatorRailsWrong)

/-- 'flightdecklaw59.SimulatorInputs': WHATEVER THE INPUT: true; the input reads as it did. -/
def simulatorInputsSpec : ChangeSpec := { name := "simulatorInputs", fn := fun _ => fun
  | [d1, d2, d3] => { results := [.lit (.bool true)], args := [d1, d2, d3] }
  | _ => none }
def simulatorInputsRow : OpenClaim := { program := "ytcmdpfdhmbpahaa", sum := "e4e3e70b633ef12ff47861a03197c4baa02a6c0eb1c39a716de5c42f0c46e122", func := "flightdeck/flightdecklaw59.SimulatorInputs", spec := "simulatorInputs", unfollowed := true, recurses := true, named := ["math/bits.divideError", "math/bits.overflowError"], apart := false }
def SimulatorInputsSaid : Prop := simulatorInputsRow.holds Try.pinned (OpenSpec.ofChange simulatorInputsSpec)

/-- ITS FALSE NEIGHBOUR: 'it returns false'. Refute it at one input. -/
def simulatorInputsWrong : ChangeSpec := { name := "simulatorInputs", fn := fun _ => fun
  | [d1, d2, d3] => { results := [.lit (.bool false)], args := [d1, d2, d3] }
  | _ => none }
def SimulatorInputsWrongFalsely : Prop := simulatorInputsRow.holds Try.pinned (OpenSpec.ofChange simulatorInputsWrong)

/- THE SECOND FORM. 'bulk': how many values and letters a reading holds, each counted each time it is reached (what is shared counts as often as it is met; a slice's spare places count too). A statement '..UptoSaid' is the law's where the arguments, and the package variables that the reading takes, are together of bulk at most 1048576: NARROWER than '..Said'. Prove '..Said' where nothing that the law and all that it calls make is longer than what came in: it says more and counts as full. Else prove '..UptoSaid'. A law counts once. -/
mutual
def uptoBulk {H : Type} : DataW H → Nat
  | .lit (.string bytes) => bytes.length + 1
  | .lit _ => 1
  | .nil => 1
  | .ptr d => uptoBulk d + 1
  | .slice elems spare => uptoBulkAll elems + uptoBulkAll spare + 1
  | .agg parts => uptoBulkAll parts + 1
  | .iface _ d => uptoBulk d + 1
  | .map entries => uptoBulkEntries entries + 1
  | .held _ => 1
def uptoBulkAll {H : Type} : List (DataW H) → Nat
  | [] => 0
  | d :: r => uptoBulk d + uptoBulkAll r
def uptoBulkEntries {H : Type} : List (Lit × DataW H) → Nat
  | [] => 0
  | x :: r => uptoBulkEntry x + uptoBulkEntries r
def uptoBulkEntry {H : Type} : Lit × DataW H → Nat
  | (.string bytes, d) => bytes.length + uptoBulk d + 1
  | (_, d) => uptoBulk d + 1
 end
def uptoSmall : (H : Type) → List (DataW H) → Bool := fun _ ds => decide (uptoBulkAll ds ≤ 1048576)
def OpenSpec.upto (s : _root_.Go.ChangeSpec) : _root_.Go.OpenSpec := { _root_.Go.OpenSpec.ofChange s with cond := some uptoSmall }

/-- 'flightdecklaw59.SimulatorMoves', WHERE WHAT IT READS IS OF BULK AT MOST 1048576: true; the input reads as it did. -/
def simulatorMovesUptoRow : OpenClaim := { program := "ytcmdpfdhmbpahaa", sum := "e4e3e70b633ef12ff47861a03197c4baa02a6c0eb1c39a716de5c42f0c46e122", func := "flightdeck/flightdecklaw59.SimulatorMoves", spec := "simulatorMoves", unfollowed := true, recurses := true, named := ["math/bits.divideError", "math/bits.overflowError"], apart := false, narrowed := true }
def SimulatorMovesUptoSaid : Prop := simulatorMovesUptoRow.holds Try.pinned (OpenSpec.upto simulatorMovesSpec)

/-- 'flightdecklaw59.SimulatorMeasures', WHERE WHAT IT READS IS OF BULK AT MOST 1048576: true; the input reads as it did. -/
def simulatorMeasuresUptoRow : OpenClaim := { program := "ytcmdpfdhmbpahaa", sum := "e4e3e70b633ef12ff47861a03197c4baa02a6c0eb1c39a716de5c42f0c46e122", func := "flightdeck/flightdecklaw59.SimulatorMeasures", spec := "simulatorMeasures", unfollowed := true, recurses := true, named := ["math/bits.divideError", "math/bits.overflowError"], apart := false, narrowed := true }
def SimulatorMeasuresUptoSaid : Prop := simulatorMeasuresUptoRow.holds Try.pinned (OpenSpec.upto simulatorMeasuresSpec)

/-- 'flightdecklaw59.SimulatorChecks', WHERE WHAT IT READS IS OF BULK AT MOST 1048576: true; the input reads as it did. -/
def simulatorChecksUptoRow : OpenClaim := { program := "ytcmdpfdhmbpahaa", sum := "e4e3e70b633ef12ff47861a03197c4baa02a6c0eb1c39a716de5c42f0c46e122", func := "flightdeck/flightdecklaw59.SimulatorChecks", spec := "simulatorChecks", unfollowed := true, recurses := true, named := ["math/bits.divideError", "math/bits.overflowError"], apart := false, narrowed := true }
def SimulatorChecksUptoSaid : Prop := simulatorChecksUptoRow.holds Try.pinned (OpenSpec.upto simulatorChecksSpec)

/-- 'flightdecklaw59.SimulatorSound', WHERE WHAT IT READS IS OF BULK AT MOST 1048576: true; the input reads as it did. -/
def simulatorSoundUptoRow : OpenClaim := { program := "ytcmdpfdhmbpahaa", sum := "e4e3e70b633ef12ff47861a03197c4baa02a6c0eb1c39a716de5c42f0c46e122", func := "flightdeck/flightdecklaw59.SimulatorSound", spec := "simulatorSound", unfollowed := true, recurses := true, named := ["math/bits.divideError", "math/bits.overflowError"], apart := false, narrowed := true }
def SimulatorSoundUptoSaid : Prop := simulatorSoundUptoRow.holds Try.pinned (OpenSpec.upto simulatorSoundSpec)

/-- 'flightdecklaw59.SimulatorRails', WHERE WHAT IT READS IS OF BULK AT MOST 1048576: true; the input reads as it did. -/
def simulatorRailsUptoRow : OpenClaim := { program := "ytcmdpfdhmbpahaa", sum := "e4e3e70b633ef12ff47861a03197c4baa02a6c0eb1c39a716de5c42f0c46e122", func := "flightdeck/flightdecklaw59.SimulatorRails", spec := "simulatorRails", unfollowed := true, recurses := true, named := ["math/bits.divideError", "math/bits.overflowError"], apart := false, narrowed := true }
def SimulatorRailsUptoSaid : Prop := simulatorRailsUptoRow.holds Try.pinned (OpenSpec.upto simulatorRailsSpec)

/-- 'flightdecklaw59.SimulatorInputs', WHERE WHAT IT READS IS OF BULK AT MOST 1048576: true; the input reads as it did. -/
def simulatorInputsUptoRow : OpenClaim := { program := "ytcmdpfdhmbpahaa", sum := "e4e3e70b633ef12ff47861a03197c4baa02a6c0eb1c39a716de5c42f0c46e122", func := "flightdeck/flightdecklaw59.SimulatorInputs", spec := "simulatorInputs", unfollowed := true, recurses := true, named := ["math/bits.divideError", "math/bits.overflowError"], apart := false, narrowed := true }
def SimulatorInputsUptoSaid : Prop := simulatorInputsUptoRow.holds Try.pinned (OpenSpec.upto simulatorInputsSpec)

end Rows
end Go.Proofs.Ytcmdpfdhmbpahaa
