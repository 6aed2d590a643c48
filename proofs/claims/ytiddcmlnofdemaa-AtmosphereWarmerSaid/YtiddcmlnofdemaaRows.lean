/-
  No cell of these rows narrows 'for every input' (looked for: loops, veiled, ifaces, maps, wideKeys, modest, calm, conditions, laid).
  DERIVED. THE GIVEN ROWS OF THIS SEAT. 6 by the template 'for every input the law returns true; each argument reads behind the call as it read before'; 0 by the template 'total and deterministic' (their statements: YtiddcmlnofdemaaTotals.lean).
  GIVEN WITH THE SEED: the statements are not yours to turn. If you find one false, say at which input.
  Laid BY PROGRAM, IN A SANDBOX (cutbox-rows.mjs): the forced cells as the released guide's own fill.sh prints them over the translation 068e0708c1ca63d3… (all of the seat's roots in one cut). By AI agents, Wed Nov 11 2026. No macro, syntax, notation, axiom, sorry.
-/
import Derived.Test.YtiddcmlnofdemaaChecked
import GoSem.Claim
import GoSem.ClaimJoined
import GoSem.ClaimMapViews
import Derived.JoinedTies
import Derived.KernelRfl
namespace Go.Proofs.Ytiddcmlnofdemaa
/- THE CELL 'sum', in the pinned program and in every row, IS THE sha256 OF THE DUMP (.gsa) THAT YtiddcmlnofdemaaProg.lean LOADS. Nothing in Lean hashes anything: it is a label: what it is worth is what the hold of that sum in a sandbox is worth. -/
noncomputable def Try.pinned : Pinned := { name := "ytiddcmlnofdemaa", sum := "068e0708c1ca63d3cd96007e4c9b1b8d9f269a05e0ccdb8ca29a17361ec1a1e7", checked := Try.checked }
namespace Rows
def none {H : Type} : Left H := { results := [], args := [] }

/-- 'flightdecklaw29.AtmospherePressure': WHATEVER THE INPUT: true; the input reads as it did. -/
def atmospherePressureSpec : ChangeSpec := { name := "atmospherePressure", fn := fun _ => fun
  | [d1, d2] => { results := [.lit (.bool true)], args := [d1, d2] }
  | _ => none }
def atmospherePressureRow : OpenClaim := { program := "ytiddcmlnofdemaa", sum := "068e0708c1ca63d3cd96007e4c9b1b8d9f269a05e0ccdb8ca29a17361ec1a1e7", func := "flightdeck/flightdecklaw29.AtmospherePressure", spec := "atmospherePressure", unfollowed := true, recurses := true, named := ["math/bits.divideError", "math/bits.overflowError"], apart := false }
def AtmospherePressureSaid : Prop := atmospherePressureRow.holds Try.pinned (OpenSpec.ofChange atmospherePressureSpec)

/-- ITS FALSE NEIGHBOUR: 'it returns false'. Refute it at one input. -/
def atmospherePressureWrong : ChangeSpec := { name := "atmospherePressure", fn := fun _ => fun
  | [d1, d2] => { results := [.lit (.bool false)], args := [d1, d2] }
  | _ => none }
def AtmospherePressureWrongFalsely : Prop := atmospherePressureRow.holds Try.pinned (OpenSpec.ofChange atmospherePressureWrong)

/-- 'flightdecklaw29.AtmosphereValues': WHATEVER THE INPUT: true; the input reads as it did. -/
def atmosphereValuesSpec : ChangeSpec := { name := "atmosphereValues", fn := fun _ => fun
  | [d1, d2] => { results := [.lit (.bool true)], args := [d1, d2] }
  | _ => none }
def atmosphereValuesRow : OpenClaim := { program := "ytiddcmlnofdemaa", sum := "068e0708c1ca63d3cd96007e4c9b1b8d9f269a05e0ccdb8ca29a17361ec1a1e7", func := "flightdeck/flightdecklaw29.AtmosphereValues", spec := "atmosphereValues", unfollowed := true, recurses := true, named := ["math/bits.divideError", "math/bits.overflowError"], apart := false }
def AtmosphereValuesSaid : Prop := atmosphereValuesRow.holds Try.pinned (OpenSpec.ofChange atmosphereValuesSpec)

/-- ITS FALSE NEIGHBOUR: 'it returns false'. Refute it at one input. -/
def atmosphereValuesWrong : ChangeSpec := { name := "atmosphereValues", fn := fun _ => fun
  | [d1, d2] => { results := [.lit (.bool false)], args := [d1, d2] }
  | _ => none }
def AtmosphereValuesWrongFalsely : Prop := atmosphereValuesRow.holds Try.pinned (OpenSpec.ofChange atmosphereValuesWrong)

/-- 'flightdecklaw29.AtmosphereLevel': WHATEVER THE INPUT: true; the input reads as it did. -/
def atmosphereLevelSpec : ChangeSpec := { name := "atmosphereLevel", fn := fun _ => fun
  | [d] => { results := [.lit (.bool true)], args := [d] }
  | _ => none }
def atmosphereLevelRow : OpenClaim := { program := "ytiddcmlnofdemaa", sum := "068e0708c1ca63d3cd96007e4c9b1b8d9f269a05e0ccdb8ca29a17361ec1a1e7", func := "flightdeck/flightdecklaw29.AtmosphereLevel", spec := "atmosphereLevel", unfollowed := true, recurses := true, named := ["math/bits.divideError", "math/bits.overflowError"], apart := false }
def AtmosphereLevelSaid : Prop := atmosphereLevelRow.holds Try.pinned (OpenSpec.ofChange atmosphereLevelSpec)

/-- ITS FALSE NEIGHBOUR: 'it returns false'. Refute it at one input. -/
def atmosphereLevelWrong : ChangeSpec := { name := "atmosphereLevel", fn := fun _ => fun
  | [d] => { results := [.lit (.bool false)], args := [d] }
  | _ => none }
def AtmosphereLevelWrongFalsely : Prop := atmosphereLevelRow.holds Try.pinned (OpenSpec.ofChange atmosphereLevelWrong)

/-- 'flightdecklaw29.AtmosphereFalls': WHATEVER THE INPUT: true; the input reads as it did. -/
def atmosphereFallsSpec : ChangeSpec := { name := "atmosphereFalls", fn := fun _ => fun
  | [d1, d2] => { results := [.lit (.bool true)], args := [d1, d2] }
  | _ => none }
def atmosphereFallsRow : OpenClaim := { program := "ytiddcmlnofdemaa", sum := "068e0708c1ca63d3cd96007e4c9b1b8d9f269a05e0ccdb8ca29a17361ec1a1e7", func := "flightdeck/flightdecklaw29.AtmosphereFalls", spec := "atmosphereFalls", unfollowed := true, recurses := true, named := ["math/bits.divideError", "math/bits.overflowError"], apart := false }
def AtmosphereFallsSaid : Prop := atmosphereFallsRow.holds Try.pinned (OpenSpec.ofChange atmosphereFallsSpec)

/-- ITS FALSE NEIGHBOUR: 'it returns false'. Refute it at one input. -/
def atmosphereFallsWrong : ChangeSpec := { name := "atmosphereFalls", fn := fun _ => fun
  | [d1, d2] => { results := [.lit (.bool false)], args := [d1, d2] }
  | _ => none }
def AtmosphereFallsWrongFalsely : Prop := atmosphereFallsRow.holds Try.pinned (OpenSpec.ofChange atmosphereFallsWrong)

/-- 'flightdecklaw29.AtmosphereWarmer': WHATEVER THE INPUT: true; the input reads as it did. -/
def atmosphereWarmerSpec : ChangeSpec := { name := "atmosphereWarmer", fn := fun _ => fun
  | [d1, d2] => { results := [.lit (.bool true)], args := [d1, d2] }
  | _ => none }
def atmosphereWarmerRow : OpenClaim := { program := "ytiddcmlnofdemaa", sum := "068e0708c1ca63d3cd96007e4c9b1b8d9f269a05e0ccdb8ca29a17361ec1a1e7", func := "flightdeck/flightdecklaw29.AtmosphereWarmer", spec := "atmosphereWarmer", unfollowed := true, recurses := true, named := ["math/bits.divideError", "math/bits.overflowError"], apart := false }
def AtmosphereWarmerSaid : Prop := atmosphereWarmerRow.holds Try.pinned (OpenSpec.ofChange atmosphereWarmerSpec)

/-- ITS FALSE NEIGHBOUR: 'it returns false'. Refute it at one input. -/
def atmosphereWarmerWrong : ChangeSpec := { name := "atmosphereWarmer", fn := fun _ => fun
  | [d1, d2] => { results := [.lit (.bool false)], args := [d1, d2] }
  | _ => none }
def AtmosphereWarmerWrongFalsely : Prop := atmosphereWarmerRow.holds Try.pinned (OpenSpec.ofChange atmosphereWarmerWrong)

/-- 'flightdecklaw29.AtmosphereSmooth': WHATEVER THE INPUT: true; the input reads as it did. -/
def atmosphereSmoothSpec : ChangeSpec := { name := "atmosphereSmooth", fn := fun _ => fun
  | [d] => { results := [.lit (.bool true)], args := [d] }
  | _ => none }
def atmosphereSmoothRow : OpenClaim := { program := "ytiddcmlnofdemaa", sum := "068e0708c1ca63d3cd96007e4c9b1b8d9f269a05e0ccdb8ca29a17361ec1a1e7", func := "flightdeck/flightdecklaw29.AtmosphereSmooth", spec := "atmosphereSmooth", unfollowed := true, recurses := true, named := ["math/bits.divideError", "math/bits.overflowError"], apart := false }
def AtmosphereSmoothSaid : Prop := atmosphereSmoothRow.holds Try.pinned (OpenSpec.ofChange atmosphereSmoothSpec)

/-- ITS FALSE NEIGHBOUR: 'it returns false'. Refute it at one input. -/
def atmosphereSmoothWrong : ChangeSpec := { name := "atmosphereSmooth", fn := fun _ => fun
  | [d] => { results := [.lit (.bool false)], args := [d] }
  | _ => none }
def AtmosphereSmoothWrongFalsely : Prop := atmosphereSmoothRow.holds Try.pinned (OpenSpec.ofChange atmosphereSmoothWrong)

/- THE SECOND FORM. 'bulk': how many values and letters a reading holds, each counted each time it is reached (what is shared counts as often as it is met; a slice's spare places count too). A statement '..UptoSaid' is the law's where the arguments, and the package variables that the reading takes, are together of bulk at most 1048576: NARROWER than '..Said'. Prove '..Said' where nothing that the law and all that it calls make is longer than what came in: it says more and counts as full. Else prove '..UptoSaid'. A law counts once. -/
mutual
def uptoBulk {H : Type} : DataW H → Nat
  | .lit (.string bytes) => bytes.length + 1
  | .lit _ => 1
  | .nil => 1
  | .ptr d => uptoBulk d + 1
  | .slice elems spare => uptoBulkAll elems + uptoBulkAll spare + 1
  | .agg parts => uptoBulkAll parts + 1
  | .iface _ d => uptoBulk d + 1
  | .map entries => uptoBulkEntries entries + 1
  | .held _ => 1
def uptoBulkAll {H : Type} : List (DataW H) → Nat
  | [] => 0
  | d :: r => uptoBulk d + uptoBulkAll r
def uptoBulkEntries {H : Type} : List (Lit × DataW H) → Nat
  | [] => 0
  | x :: r => uptoBulkEntry x + uptoBulkEntries r
def uptoBulkEntry {H : Type} : Lit × DataW H → Nat
  | (.string bytes, d) => bytes.length + uptoBulk d + 1
  | (_, d) => uptoBulk d + 1
 end
def uptoSmall : (H : Type) → List (DataW H) → Bool := fun _ ds => decide (uptoBulkAll ds ≤ 1048576)
def OpenSpec.upto (s : _root_.Go.ChangeSpec) : _root_.Go.OpenSpec := { _root_.Go.OpenSpec.ofChange s with cond := some uptoSmall }

/-- 'flightdecklaw29.AtmospherePressure', WHERE WHAT IT READS IS OF BULK AT MOST 1048576: true; the input reads as it did. -/
def atmospherePressureUptoRow : OpenClaim := { program := "ytiddcmlnofdemaa", sum := "068e0708c1ca63d3cd96007e4c9b1b8d9f269a05e0ccdb8ca29a17361ec1a1e7", func := "flightdeck/flightdecklaw29.AtmospherePressure", spec := "atmospherePressure", unfollowed := true, recurses := true, named := ["math/bits.divideError", "math/bits.overflowError"], apart := false, narrowed := true }
def AtmospherePressureUptoSaid : Prop := atmospherePressureUptoRow.holds Try.pinned (OpenSpec.upto atmospherePressureSpec)

/-- 'flightdecklaw29.AtmosphereValues', WHERE WHAT IT READS IS OF BULK AT MOST 1048576: true; the input reads as it did. -/
def atmosphereValuesUptoRow : OpenClaim := { program := "ytiddcmlnofdemaa", sum := "068e0708c1ca63d3cd96007e4c9b1b8d9f269a05e0ccdb8ca29a17361ec1a1e7", func := "flightdeck/flightdecklaw29.AtmosphereValues", spec := "atmosphereValues", unfollowed := true, recurses := true, named := ["math/bits.divideError", "math/bits.overflowError"], apart := false, narrowed := true }
def AtmosphereValuesUptoSaid : Prop := atmosphereValuesUptoRow.holds Try.pinned (OpenSpec.upto atmosphereValuesSpec)

/-- 'flightdecklaw29.AtmosphereLevel', WHERE WHAT IT READS IS OF BULK AT MOST 1048576: true; the input reads as it did. -/
def atmosphereLevelUptoRow : OpenClaim := { program := "ytiddcmlnofdemaa", sum := "068e0708c1ca63d3cd96007e4c9b1b8d9f269a05e0ccdb8ca29a17361ec1a1e7", func := "flightdeck/flightdecklaw29.AtmosphereLevel", spec := "atmosphereLevel", unfollowed := true, recurses := true, named := ["math/bits.divideError", "math/bits.overflowError"], apart := false, narrowed := true }
def AtmosphereLevelUptoSaid : Prop := atmosphereLevelUptoRow.holds Try.pinned (OpenSpec.upto atmosphereLevelSpec)

/-- 'flightdecklaw29.AtmosphereFalls', WHERE WHAT IT READS IS OF BULK AT MOST 1048576: true; the input reads as it did. -/
def atmosphereFallsUptoRow : OpenClaim := { program := "ytiddcmlnofdemaa", sum := "068e0708c1ca63d3cd96007e4c9b1b8d9f269a05e0ccdb8ca29a17361ec1a1e7", func := "flightdeck/flightdecklaw29.AtmosphereFalls", spec := "atmosphereFalls", unfollowed := true, recurses := true, named := ["math/bits.divideError", "math/bits.overflowError"], apart := false, narrowed := true }
def AtmosphereFallsUptoSaid : Prop := atmosphereFallsUptoRow.holds Try.pinned (OpenSpec.upto atmosphereFallsSpec)

/-- 'flightdecklaw29.AtmosphereWarmer', WHERE WHAT IT READS IS OF BULK AT MOST 1048576: true; the input reads as it did. -/
def atmosphereWarmerUptoRow : OpenClaim := { program := "ytiddcmlnofdemaa", sum := "068e0708c1ca63d3cd96007e4c9b1b8d9f269a05e0ccdb8ca29a17361ec1a1e7", func := "flightdeck/flightdecklaw29.AtmosphereWarmer", spec := "atmosphereWarmer", unfollowed := true, recurses := true, named := ["math/bits.divideError", "math/bits.overflowError"], apart := false, narrowed := true }
def AtmosphereWarmerUptoSaid : Prop := atmosphereWarmerUptoRow.holds Try.pinned (OpenSpec.upto atmosphereWarmerSpec)

/-- 'flightdecklaw29.AtmosphereSmooth', WHERE WHAT IT READS IS OF BULK AT MOST 1048576: true; the input reads as it did. -/
def atmosphereSmoothUptoRow : OpenClaim := { program := "ytiddcmlnofdemaa", sum := "068e0708c1ca63d3cd96007e4c9b1b8d9f269a05e0ccdb8ca29a17361ec1a1e7", func := "flightdeck/flightdecklaw29.AtmosphereSmooth", spec := "atmosphereSmooth", unfollowed := true, recurses := true, named := ["math/bits.divideError", "math/bits.overflowError"], apart := false, narrowed := true }
def AtmosphereSmoothUptoSaid : Prop := atmosphereSmoothUptoRow.holds Try.pinned (OpenSpec.upto atmosphereSmoothSpec)

end Rows
end Go.Proofs.Ytiddcmlnofdemaa
