/-
  No cell of these rows narrows 'for every input' (looked for: loops, veiled, ifaces, maps, wideKeys, modest, calm, conditions, laid).
  DERIVED. THE GIVEN ROWS OF THIS SEAT. 8 by the template 'for every input the law returns true; each argument reads behind the call as it read before'; 0 by the template 'total and deterministic' (their statements: YthhegchfmobkaaaTotals.lean).
  GIVEN WITH THE SEED: the statements are not yours to turn. If you find one false, say at which input.
  Laid BY PROGRAM, IN A SANDBOX (cutbox-rows.mjs): the forced cells as the released guide's own fill.sh prints them over the translation a58338e46061a912… (all of the seat's roots in one cut). By AI agents, Wed Nov 11 2026. No macro, syntax, notation, axiom, sorry.
-/
import Derived.Test.YthhegchfmobkaaaChecked
import GoSem.Claim
import GoSem.ClaimJoined
import GoSem.ClaimMapViews
import Derived.JoinedTies
import Derived.KernelRfl
namespace Go.Proofs.Ythhegchfmobkaaa
/- THE CELL 'sum', in the pinned program and in every row, IS THE sha256 OF THE DUMP (.gsa) THAT YthhegchfmobkaaaProg.lean LOADS. Nothing in Lean hashes anything: it is a label: what it is worth is what the hold of that sum in a sandbox is worth. -/
noncomputable def Try.pinned : Pinned := { name := "ythhegchfmobkaaa", sum := "a58338e46061a9128f32c6c0d9fe88b8d7fb5b5178fda944ce063ece7506c604", checked := Try.checked }
namespace Rows
def none {H : Type} : Left H := { results := [], args := [] }

/-- 'flightdecklaw01.FixedDivides': WHATEVER THE INPUT: true; the input reads as it did. -/
def fixedDividesSpec : ChangeSpec := { name := "fixedDivides", fn := fun _ => fun
  | [d1, d2] => { results := [.lit (.bool true)], args := [d1, d2] }
  | _ => none }
def fixedDividesRow : OpenClaim := { program := "ythhegchfmobkaaa", sum := "a58338e46061a9128f32c6c0d9fe88b8d7fb5b5178fda944ce063ece7506c604", func := "flightdeck/flightdecklaw01.FixedDivides", spec := "fixedDivides", named := ["math/bits.divideError", "math/bits.overflowError"], apart := false }
def FixedDividesSaid : Prop := fixedDividesRow.holds Try.pinned (OpenSpec.ofChange fixedDividesSpec)

/-- ITS FALSE NEIGHBOUR: 'it returns false'. Refute it at one input. -/
def fixedDividesWrong : ChangeSpec := { name := "fixedDivides", fn := fun _ => fun
  | [d1, d2] => { results := [.lit (.bool false)], args := [d1, d2] }
  | _ => none }
def FixedDividesWrongFalsely : Prop := fixedDividesRow.holds Try.pinned (OpenSpec.ofChange fixedDividesWrong)

/-- 'flightdecklaw01.FixedScales': WHATEVER THE INPUT: true; the input reads as it did. -/
def fixedScalesSpec : ChangeSpec := { name := "fixedScales", fn := fun _ => fun
  | [d1, d2, d3] => { results := [.lit (.bool true)], args := [d1, d2, d3] }
  | _ => none }
def fixedScalesRow : OpenClaim := { program := "ythhegchfmobkaaa", sum := "a58338e46061a9128f32c6c0d9fe88b8d7fb5b5178fda944ce063ece7506c604", func := "flightdeck/flightdecklaw01.FixedScales", spec := "fixedScales", named := ["math/bits.divideError", "math/bits.overflowError"], apart := false }
def FixedScalesSaid : Prop := fixedScalesRow.holds Try.pinned (OpenSpec.ofChange fixedScalesSpec)

/-- ITS FALSE NEIGHBOUR: 'it returns false'. Refute it at one input. -/
def fixedScalesWrong : ChangeSpec := { name := "fixedScales", fn := fun _ => fun
  | [d1, d2, d3] => { results := [.lit (.bool false)], args := [d1, d2, d3] }
  | _ => none }
def FixedScalesWrongFalsely : Prop := fixedScalesRow.holds Try.pinned (OpenSpec.ofChange fixedScalesWrong)

/-- 'flightdecklaw01.FixedRemainder': WHATEVER THE INPUT: true; the input reads as it did. -/
def fixedRemainderSpec : ChangeSpec := { name := "fixedRemainder", fn := fun _ => fun
  | [d1, d2, d3] => { results := [.lit (.bool true)], args := [d1, d2, d3] }
  | _ => none }
def fixedRemainderRow : OpenClaim := { program := "ythhegchfmobkaaa", sum := "a58338e46061a9128f32c6c0d9fe88b8d7fb5b5178fda944ce063ece7506c604", func := "flightdeck/flightdecklaw01.FixedRemainder", spec := "fixedRemainder", named := ["math/bits.divideError", "math/bits.overflowError"], apart := false }
def FixedRemainderSaid : Prop := fixedRemainderRow.holds Try.pinned (OpenSpec.ofChange fixedRemainderSpec)

/-- ITS FALSE NEIGHBOUR: 'it returns false'. Refute it at one input. -/
def fixedRemainderWrong : ChangeSpec := { name := "fixedRemainder", fn := fun _ => fun
  | [d1, d2, d3] => { results := [.lit (.bool false)], args := [d1, d2, d3] }
  | _ => none }
def FixedRemainderWrongFalsely : Prop := fixedRemainderRow.holds Try.pinned (OpenSpec.ofChange fixedRemainderWrong)

/-- 'flightdecklaw01.FixedNearest': WHATEVER THE INPUT: true; the input reads as it did. -/
def fixedNearestSpec : ChangeSpec := { name := "fixedNearest", fn := fun _ => fun
  | [d1, d2] => { results := [.lit (.bool true)], args := [d1, d2] }
  | _ => none }
def fixedNearestRow : OpenClaim := { program := "ythhegchfmobkaaa", sum := "a58338e46061a9128f32c6c0d9fe88b8d7fb5b5178fda944ce063ece7506c604", func := "flightdeck/flightdecklaw01.FixedNearest", spec := "fixedNearest", named := ["math/bits.divideError", "math/bits.overflowError"], apart := false }
def FixedNearestSaid : Prop := fixedNearestRow.holds Try.pinned (OpenSpec.ofChange fixedNearestSpec)

/-- ITS FALSE NEIGHBOUR: 'it returns false'. Refute it at one input. -/
def fixedNearestWrong : ChangeSpec := { name := "fixedNearest", fn := fun _ => fun
  | [d1, d2] => { results := [.lit (.bool false)], args := [d1, d2] }
  | _ => none }
def FixedNearestWrongFalsely : Prop := fixedNearestRow.holds Try.pinned (OpenSpec.ofChange fixedNearestWrong)

/-- 'flightdecklaw01.FixedCancels': WHATEVER THE INPUT: true; the input reads as it did. -/
def fixedCancelsSpec : ChangeSpec := { name := "fixedCancels", fn := fun _ => fun
  | [d1, d2] => { results := [.lit (.bool true)], args := [d1, d2] }
  | _ => none }
def fixedCancelsRow : OpenClaim := { program := "ythhegchfmobkaaa", sum := "a58338e46061a9128f32c6c0d9fe88b8d7fb5b5178fda944ce063ece7506c604", func := "flightdeck/flightdecklaw01.FixedCancels", spec := "fixedCancels", named := ["math/bits.divideError", "math/bits.overflowError"], apart := false }
def FixedCancelsSaid : Prop := fixedCancelsRow.holds Try.pinned (OpenSpec.ofChange fixedCancelsSpec)

/-- ITS FALSE NEIGHBOUR: 'it returns false'. Refute it at one input. -/
def fixedCancelsWrong : ChangeSpec := { name := "fixedCancels", fn := fun _ => fun
  | [d1, d2] => { results := [.lit (.bool false)], args := [d1, d2] }
  | _ => none }
def FixedCancelsWrongFalsely : Prop := fixedCancelsRow.holds Try.pinned (OpenSpec.ofChange fixedCancelsWrong)

/-- 'flightdecklaw01.FixedOrder': WHATEVER THE INPUT: true; the input reads as it did. -/
def fixedOrderSpec : ChangeSpec := { name := "fixedOrder", fn := fun _ => fun
  | [d1, d2, d3] => { results := [.lit (.bool true)], args := [d1, d2, d3] }
  | _ => none }
def fixedOrderRow : OpenClaim := { program := "ythhegchfmobkaaa", sum := "a58338e46061a9128f32c6c0d9fe88b8d7fb5b5178fda944ce063ece7506c604", func := "flightdeck/flightdecklaw01.FixedOrder", spec := "fixedOrder", named := ["math/bits.divideError", "math/bits.overflowError"], apart := false }
def FixedOrderSaid : Prop := fixedOrderRow.holds Try.pinned (OpenSpec.ofChange fixedOrderSpec)

/-- ITS FALSE NEIGHBOUR: 'it returns false'. Refute it at one input. -/
def fixedOrderWrong : ChangeSpec := { name := "fixedOrder", fn := fun _ => fun
  | [d1, d2, d3] => { results := [.lit (.bool false)], args := [d1, d2, d3] }
  | _ => none }
def FixedOrderWrongFalsely : Prop := fixedOrderRow.holds Try.pinned (OpenSpec.ofChange fixedOrderWrong)

/-- 'flightdecklaw01.FixedNearer': WHATEVER THE INPUT: true; the input reads as it did. -/
def fixedNearerSpec : ChangeSpec := { name := "fixedNearer", fn := fun _ => fun
  | [d1, d2] => { results := [.lit (.bool true)], args := [d1, d2] }
  | _ => none }
def fixedNearerRow : OpenClaim := { program := "ythhegchfmobkaaa", sum := "a58338e46061a9128f32c6c0d9fe88b8d7fb5b5178fda944ce063ece7506c604", func := "flightdeck/flightdecklaw01.FixedNearer", spec := "fixedNearer", named := ["math/bits.divideError", "math/bits.overflowError"], apart := false }
def FixedNearerSaid : Prop := fixedNearerRow.holds Try.pinned (OpenSpec.ofChange fixedNearerSpec)

/-- ITS FALSE NEIGHBOUR: 'it returns false'. Refute it at one input. -/
def fixedNearerWrong : ChangeSpec := { name := "fixedNearer", fn := fun _ => fun
  | [d1, d2] => { results := [.lit (.bool false)], args := [d1, d2] }
  | _ => none }
def FixedNearerWrongFalsely : Prop := fixedNearerRow.holds Try.pinned (OpenSpec.ofChange fixedNearerWrong)

/-- 'flightdecklaw01.FixedSaturates': WHATEVER THE INPUT: true; the input reads as it did. -/
def fixedSaturatesSpec : ChangeSpec := { name := "fixedSaturates", fn := fun _ => fun
  | [d1, d2, d3] => { results := [.lit (.bool true)], args := [d1, d2, d3] }
  | _ => none }
def fixedSaturatesRow : OpenClaim := { program := "ythhegchfmobkaaa", sum := "a58338e46061a9128f32c6c0d9fe88b8d7fb5b5178fda944ce063ece7506c604", func := "flightdeck/flightdecklaw01.FixedSaturates", spec := "fixedSaturates", named := ["math/bits.divideError", "math/bits.overflowError"], apart := false }
def FixedSaturatesSaid : Prop := fixedSaturatesRow.holds Try.pinned (OpenSpec.ofChange fixedSaturatesSpec)

/-- ITS FALSE NEIGHBOUR: 'it returns false'. Refute it at one input. -/
def fixedSaturatesWrong : ChangeSpec := { name := "fixedSaturates", fn := fun _ => fun
  | [d1, d2, d3] => { results := [.lit (.bool false)], args := [d1, d2, d3] }
  | _ => none }
def FixedSaturatesWrongFalsely : Prop := fixedSaturatesRow.holds Try.pinned (OpenSpec.ofChange fixedSaturatesWrong)

/- THE SECOND FORM. 'bulk': how many values and letters a reading holds, each counted each time it is reached (what is shared counts as often as it is met; a slice's spare places count too). A statement '..UptoSaid' is the law's where the arguments, and the package variables that the reading takes, are together of bulk at most 1048576: NARROWER than '..Said'. Prove '..Said' where nothing that the law and all that it calls make is longer than what came in: it says more and counts as full. Else prove '..UptoSaid'. A law counts once. -/
mutual
def uptoBulk {H : Type} : DataW H → Nat
  | .lit (.string bytes) => bytes.length + 1
  | .lit _ => 1
  | .nil => 1
  | .ptr d => uptoBulk d + 1
  | .slice elems spare => uptoBulkAll elems + uptoBulkAll spare + 1
  | .agg parts => uptoBulkAll parts + 1
  | .iface _ d => uptoBulk d + 1
  | .map entries => uptoBulkEntries entries + 1
  | .held _ => 1
def uptoBulkAll {H : Type} : List (DataW H) → Nat
  | [] => 0
  | d :: r => uptoBulk d + uptoBulkAll r
def uptoBulkEntries {H : Type} : List (Lit × DataW H) → Nat
  | [] => 0
  | x :: r => uptoBulkEntry x + uptoBulkEntries r
def uptoBulkEntry {H : Type} : Lit × DataW H → Nat
  | (.string bytes, d) => bytes.length + uptoBulk d + 1
  | (_, d) => uptoBulk d + 1
 end
def uptoSmall : (H : Type) → List (DataW H) → Bool := fun _ ds => decide (uptoBulkAll ds ≤ 1048576)
def OpenSpec.upto (s : _root_.Go.ChangeSpec) : _root_.Go.OpenSpec := { _root_.Go.OpenSpec.ofChange s with cond := some uptoSmall }

/-- 'flightdecklaw01.FixedDivides', WHERE WHAT IT READS IS OF BULK AT MOST 1048576: true; the input reads as it did. -/
def fixedDividesUptoRow : OpenClaim := { program := "ythhegchfmobkaaa", sum := "a58338e46061a9128f32c6c0d9fe88b8d7fb5b5178fda944ce063ece7506c604", func := "flightdeck/flightdecklaw01.FixedDivides", spec := "fixedDivides", named := ["math/bits.divideError", "math/bits.overflowError"], apart := false, narrowed := true }
def FixedDividesUptoSaid : Prop := fixedDividesUptoRow.holds Try.pinned (OpenSpec.upto fixedDividesSpec)

/-- 'flightdecklaw01.FixedScales', WHERE WHAT IT READS IS OF BULK AT MOST 1048576: true; the input reads as it did. -/
def fixedScalesUptoRow : OpenClaim := { program := "ythhegchfmobkaaa", sum := "a58338e46061a9128f32c6c0d9fe88b8d7fb5b5178fda944ce063ece7506c604", func := "flightdeck/flightdecklaw01.FixedScales", spec := "fixedScales", named := ["math/bits.divideError", "math/bits.overflowError"], apart := false, narrowed := true }
def FixedScalesUptoSaid : Prop := fixedScalesUptoRow.holds Try.pinned (OpenSpec.upto fixedScalesSpec)

/-- 'flightdecklaw01.FixedRemainder', WHERE WHAT IT READS IS OF BULK AT MOST 1048576: true; the input reads as it did. -/
def fixedRemainderUptoRow : OpenClaim := { program := "ythhegchfmobkaaa", sum := "a58338e46061a9128f32c6c0d9fe88b8d7fb5b5178fda944ce063ece7506c604", func := "flightdeck/flightdecklaw01.FixedRemainder", spec := "fixedRemainder", named := ["math/bits.divideError", "math/bits.overflowError"], apart := false, narrowed := true }
def FixedRemainderUptoSaid : Prop := fixedRemainderUptoRow.holds Try.pinned (OpenSpec.upto fixedRemainderSpec)

/-- 'flightdecklaw01.FixedNearest', WHERE WHAT IT READS IS OF BULK AT MOST 1048576: true; the input reads as it did. -/
def fixedNearestUptoRow : OpenClaim := { program := "ythhegchfmobkaaa", sum := "a58338e46061a9128f32c6c0d9fe88b8d7fb5b5178fda944ce063ece7506c604", func := "flightdeck/flightdecklaw01.FixedNearest", spec := "fixedNearest", named := ["math/bits.divideError", "math/bits.overflowError"], apart := false, narrowed := true }
def FixedNearestUptoSaid : Prop := fixedNearestUptoRow.holds Try.pinned (OpenSpec.upto fixedNearestSpec)

/-- 'flightdecklaw01.FixedCancels', WHERE WHAT IT READS IS OF BULK AT MOST 1048576: true; the input reads as it did. -/
def fixedCancelsUptoRow : OpenClaim := { program := "ythhegchfmobkaaa", sum := "a58338e46061a9128f32c6c0d9fe88b8d7fb5b5178fda944ce063ece7506c604", func := "flightdeck/flightdecklaw01.FixedCancels", spec := "fixedCancels", named := ["math/bits.divideError", "math/bits.overflowError"], apart := false, narrowed := true }
def FixedCancelsUptoSaid : Prop := fixedCancelsUptoRow.holds Try.pinned (OpenSpec.upto fixedCancelsSpec)

/-- 'flightdecklaw01.FixedOrder', WHERE WHAT IT READS IS OF BULK AT MOST 1048576: true; the input reads as it did. -/
def fixedOrderUptoRow : OpenClaim := { program := "ythhegchfmobkaaa", sum := "a58338e46061a9128f32c6c0d9fe88b8d7fb5b5178fda944ce063ece7506c604", func := "flightdeck/flightdecklaw01.FixedOrder", spec := "fixedOrder", named := ["math/bits.divideError", "math/bits.overflowError"], apart := false, narrowed := true }
def FixedOrderUptoSaid : Prop := fixedOrderUptoRow.holds Try.pinned (OpenSpec.upto fixedOrderSpec)

/-- 'flightdecklaw01.FixedNearer', WHERE WHAT IT READS IS OF BULK AT MOST 1048576: true; the input reads as it did. -/
def fixedNearerUptoRow : OpenClaim := { program := "ythhegchfmobkaaa", sum := "a58338e46061a9128f32c6c0d9fe88b8d7fb5b5178fda944ce063ece7506c604", func := "flightdeck/flightdecklaw01.FixedNearer", spec := "fixedNearer", named := ["math/bits.divideError", "math/bits.overflowError"], apart := false, narrowed := true }
def FixedNearerUptoSaid : Prop := fixedNearerUptoRow.holds Try.pinned (OpenSpec.upto fixedNearerSpec)

/-- 'flightdecklaw01.FixedSaturates', WHERE WHAT IT READS IS OF BULK AT MOST 1048576: true; the input reads as it did. -/
def fixedSaturatesUptoRow : OpenClaim := { program := "ythhegchfmobkaaa", sum := "a58338e46061a9128f32c6c0d9fe88b8d7fb5b5178fda944ce063ece7506c604", func := "flightdeck/flightdecklaw01.FixedSaturates", spec := "fixedSaturates", named := ["math/bits.divideError", "math/bits.overflowError"], apart := false, narrowed := true }
def FixedSaturatesUptoSaid : Prop := fixedSaturatesUptoRow.holds Try.pinned (OpenSpec.upto fixedSaturatesSpec)

end Rows
end Go.Proofs.Ythhegchfmobkaaa
