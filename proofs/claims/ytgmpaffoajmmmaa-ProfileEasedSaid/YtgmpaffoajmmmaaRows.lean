/-
  No cell of these rows narrows 'for every input' (looked for: loops, veiled, ifaces, maps, wideKeys, modest, calm, conditions, laid).
  DERIVED. THE GIVEN ROWS OF THIS SEAT. 8 by the template 'for every input the law returns true; each argument reads behind the call as it read before'; 0 by the template 'total and deterministic' (their statements: YtgmpaffoajmmmaaTotals.lean).
  GIVEN WITH THE SEED: the statements are not yours to turn. If you find one false, say at which input.
  Laid BY PROGRAM, IN A SANDBOX (cutbox-rows.mjs): the forced cells as the released guide's own fill.sh prints them over the translation 699048a3100b081b… (all of the seat's roots in one cut). By AI agents, Wed Nov 11 2026. No macro, syntax, notation, axiom, sorry.
-/
import Derived.Test.YtgmpaffoajmmmaaChecked
import GoSem.Claim
import GoSem.ClaimJoined
import GoSem.ClaimMapViews
import Derived.JoinedTies
import Derived.KernelRfl
namespace Go.Proofs.Ytgmpaffoajmmmaa
/- THE CELL 'sum', in the pinned program and in every row, IS THE sha256 OF THE DUMP (.gsa) THAT YtgmpaffoajmmmaaProg.lean LOADS. Nothing in Lean hashes anything: it is a label: what it is worth is what the hold of that sum in a sandbox is worth. -/
noncomputable def Try.pinned : Pinned := { name := "ytgmpaffoajmmmaa", sum := "699048a3100b081bc66ee19a8400e8a4580a3b66b1811a4ea24497f091e66a10", checked := Try.checked }
namespace Rows
def none {H : Type} : Left H := { results := [], args := [] }

/-- 'flightdecklaw34.ProfileValues': WHATEVER THE INPUT: true; the input reads as it did. -/
def profileValuesSpec : ChangeSpec := { name := "profileValues", fn := fun _ => fun
  | [d1, d2, d3] => { results := [.lit (.bool true)], args := [d1, d2, d3] }
  | _ => none }
def profileValuesRow : OpenClaim := { program := "ytgmpaffoajmmmaa", sum := "699048a3100b081bc66ee19a8400e8a4580a3b66b1811a4ea24497f091e66a10", func := "flightdeck/flightdecklaw34.ProfileValues", spec := "profileValues", unfollowed := true, recurses := true, named := ["math/bits.divideError", "math/bits.overflowError"], apart := false }
def ProfileValuesSaid : Prop := profileValuesRow.holds Try.pinned (OpenSpec.ofChange profileValuesSpec)

/-- ITS FALSE NEIGHBOUR: 'it returns false'. Refute it at one input. -/
def profileValuesWrong : ChangeSpec := { name := "profileValues", fn := fun _ => fun
  | [d1, d2, d3] => { results := [.lit (.bool false)], args := [d1, d2, d3] }
  | _ => none }
def ProfileValuesWrongFalsely : Prop := profileValuesRow.holds Try.pinned (OpenSpec.ofChange profileValuesWrong)

/-- 'flightdecklaw34.ProfileBelow': WHATEVER THE INPUT: true; the input reads as it did. -/
def profileBelowSpec : ChangeSpec := { name := "profileBelow", fn := fun _ => fun
  | [d1, d2, d3] => { results := [.lit (.bool true)], args := [d1, d2, d3] }
  | _ => none }
def profileBelowRow : OpenClaim := { program := "ytgmpaffoajmmmaa", sum := "699048a3100b081bc66ee19a8400e8a4580a3b66b1811a4ea24497f091e66a10", func := "flightdeck/flightdecklaw34.ProfileBelow", spec := "profileBelow", unfollowed := true, recurses := true, named := ["math/bits.divideError", "math/bits.overflowError"], apart := false }
def ProfileBelowSaid : Prop := profileBelowRow.holds Try.pinned (OpenSpec.ofChange profileBelowSpec)

/-- ITS FALSE NEIGHBOUR: 'it returns false'. Refute it at one input. -/
def profileBelowWrong : ChangeSpec := { name := "profileBelow", fn := fun _ => fun
  | [d1, d2, d3] => { results := [.lit (.bool false)], args := [d1, d2, d3] }
  | _ => none }
def ProfileBelowWrongFalsely : Prop := profileBelowRow.holds Try.pinned (OpenSpec.ofChange profileBelowWrong)

/-- 'flightdecklaw34.ProfileBetween': WHATEVER THE INPUT: true; the input reads as it did. -/
def profileBetweenSpec : ChangeSpec := { name := "profileBetween", fn := fun _ => fun
  | [d1, d2, d3] => { results := [.lit (.bool true)], args := [d1, d2, d3] }
  | _ => none }
def profileBetweenRow : OpenClaim := { program := "ytgmpaffoajmmmaa", sum := "699048a3100b081bc66ee19a8400e8a4580a3b66b1811a4ea24497f091e66a10", func := "flightdeck/flightdecklaw34.ProfileBetween", spec := "profileBetween", unfollowed := true, recurses := true, named := ["math/bits.divideError", "math/bits.overflowError"], apart := false }
def ProfileBetweenSaid : Prop := profileBetweenRow.holds Try.pinned (OpenSpec.ofChange profileBetweenSpec)

/-- ITS FALSE NEIGHBOUR: 'it returns false'. Refute it at one input. -/
def profileBetweenWrong : ChangeSpec := { name := "profileBetween", fn := fun _ => fun
  | [d1, d2, d3] => { results := [.lit (.bool false)], args := [d1, d2, d3] }
  | _ => none }
def ProfileBetweenWrongFalsely : Prop := profileBetweenRow.holds Try.pinned (OpenSpec.ofChange profileBetweenWrong)

/-- 'flightdecklaw34.ProfileWhere': WHATEVER THE INPUT: true; the input reads as it did. -/
def profileWhereSpec : ChangeSpec := { name := "profileWhere", fn := fun _ => fun
  | [d1, d2, d3] => { results := [.lit (.bool true)], args := [d1, d2, d3] }
  | _ => none }
def profileWhereRow : OpenClaim := { program := "ytgmpaffoajmmmaa", sum := "699048a3100b081bc66ee19a8400e8a4580a3b66b1811a4ea24497f091e66a10", func := "flightdeck/flightdecklaw34.ProfileWhere", spec := "profileWhere", unfollowed := true, recurses := true, named := ["math/bits.divideError", "math/bits.overflowError"], apart := false }
def ProfileWhereSaid : Prop := profileWhereRow.holds Try.pinned (OpenSpec.ofChange profileWhereSpec)

/-- ITS FALSE NEIGHBOUR: 'it returns false'. Refute it at one input. -/
def profileWhereWrong : ChangeSpec := { name := "profileWhere", fn := fun _ => fun
  | [d1, d2, d3] => { results := [.lit (.bool false)], args := [d1, d2, d3] }
  | _ => none }
def ProfileWhereWrongFalsely : Prop := profileWhereRow.holds Try.pinned (OpenSpec.ofChange profileWhereWrong)

/-- 'flightdecklaw34.ProfileInside': WHATEVER THE INPUT: true; the input reads as it did. -/
def profileInsideSpec : ChangeSpec := { name := "profileInside", fn := fun _ => fun
  | [d1, d2, d3] => { results := [.lit (.bool true)], args := [d1, d2, d3] }
  | _ => none }
def profileInsideRow : OpenClaim := { program := "ytgmpaffoajmmmaa", sum := "699048a3100b081bc66ee19a8400e8a4580a3b66b1811a4ea24497f091e66a10", func := "flightdeck/flightdecklaw34.ProfileInside", spec := "profileInside", unfollowed := true, recurses := true, named := ["math/bits.divideError", "math/bits.overflowError"], apart := false }
def ProfileInsideSaid : Prop := profileInsideRow.holds Try.pinned (OpenSpec.ofChange profileInsideSpec)

/-- ITS FALSE NEIGHBOUR: 'it returns false'. Refute it at one input. -/
def profileInsideWrong : ChangeSpec := { name := "profileInside", fn := fun _ => fun
  | [d1, d2, d3] => { results := [.lit (.bool false)], args := [d1, d2, d3] }
  | _ => none }
def ProfileInsideWrongFalsely : Prop := profileInsideRow.holds Try.pinned (OpenSpec.ofChange profileInsideWrong)

/-- 'flightdecklaw34.ProfileEased': WHATEVER THE INPUT: true; the input reads as it did. -/
def profileEasedSpec : ChangeSpec := { name := "profileEased", fn := fun _ => fun
  | [d1, d2, d3] => { results := [.lit (.bool true)], args := [d1, d2, d3] }
  | _ => none }
def profileEasedRow : OpenClaim := { program := "ytgmpaffoajmmmaa", sum := "699048a3100b081bc66ee19a8400e8a4580a3b66b1811a4ea24497f091e66a10", func := "flightdeck/flightdecklaw34.ProfileEased", spec := "profileEased", unfollowed := true, recurses := true, named := ["math/bits.divideError", "math/bits.overflowError"], apart := false }
def ProfileEasedSaid : Prop := profileEasedRow.holds Try.pinned (OpenSpec.ofChange profileEasedSpec)

/-- ITS FALSE NEIGHBOUR: 'it returns false'. Refute it at one input. -/
def profileEasedWrong : ChangeSpec := { name := "profileEased", fn := fun _ => fun
  | [d1, d2, d3] => { results := [.lit (.bool false)], args := [d1, d2, d3] }
  | _ => none }
def ProfileEasedWrongFalsely : Prop := profileEasedRow.holds Try.pinned (OpenSpec.ofChange profileEasedWrong)

/-- 'flightdecklaw34.ProfileLattice': WHATEVER THE INPUT: true; the input reads as it did. -/
def profileLatticeSpec : ChangeSpec := { name := "profileLattice", fn := fun _ => fun
  | [d1, d2, d3] => { results := [.lit (.bool true)], args := [d1, d2, d3] }
  | _ => none }
def profileLatticeRow : OpenClaim := { program := "ytgmpaffoajmmmaa", sum := "699048a3100b081bc66ee19a8400e8a4580a3b66b1811a4ea24497f091e66a10", func := "flightdeck/flightdecklaw34.ProfileLattice", spec := "profileLattice", unfollowed := true, recurses := true, named := ["math/bits.divideError", "math/bits.overflowError"], apart := false }
def ProfileLatticeSaid : Prop := profileLatticeRow.holds Try.pinned (OpenSpec.ofChange profileLatticeSpec)

/-- ITS FALSE NEIGHBOUR: 'it returns false'. Refute it at one input. -/
def profileLatticeWrong : ChangeSpec := { name := "profileLattice", fn := fun _ => fun
  | [d1, d2, d3] => { results := [.lit (.bool false)], args := [d1, d2, d3] }
  | _ => none }
def ProfileLatticeWrongFalsely : Prop := profileLatticeRow.holds Try.pinned (OpenSpec.ofChange profileLatticeWrong)

/-- 'flightdecklaw34.ProfileCruise': WHATEVER THE INPUT: true; the input reads as it did. -/
def profileCruiseSpec : ChangeSpec := { name := "profileCruise", fn := fun _ => fun
  | [d1, d2, d3] => { results := [.lit (.bool true)], args := [d1, d2, d3] }
  | _ => none }
def profileCruiseRow : OpenClaim := { program := "ytgmpaffoajmmmaa", sum := "699048a3100b081bc66ee19a8400e8a4580a3b66b1811a4ea24497f091e66a10", func := "flightdeck/flightdecklaw34.ProfileCruise", spec := "profileCruise", unfollowed := true, recurses := true, named := ["math/bits.divideError", "math/bits.overflowError"], apart := false }
def ProfileCruiseSaid : Prop := profileCruiseRow.holds Try.pinned (OpenSpec.ofChange profileCruiseSpec)

/-- ITS FALSE NEIGHBOUR: 'it returns false'. Refute it at one input. -/
def profileCruiseWrong : ChangeSpec := { name := "profileCruise", fn := fun _ => fun
  | [d1, d2, d3] => { results := [.lit (.bool false)], args := [d1, d2, d3] }
  | _ => none }
def ProfileCruiseWrongFalsely : Prop := profileCruiseRow.holds Try.pinned (OpenSpec.ofChange profileCruiseWrong)

/- THE SECOND FORM. 'bulk': how many values and letters a reading holds, each counted each time it is reached (what is shared counts as often as it is met; a slice's spare places count too). A statement '..UptoSaid' is the law's where the arguments, and the package variables that the reading takes, are together of bulk at most 1048576: NARROWER than '..Said'. Prove '..Said' where nothing that the law and all that it calls make is longer than what came in: it says more and counts as full. Else prove '..UptoSaid'. A law counts once. -/
mutual
def uptoBulk {H : Type} : DataW H → Nat
  | .lit (.string bytes) => bytes.length + 1
  | .lit _ => 1
  | .nil => 1
  | .ptr d => uptoBulk d + 1
  | .slice elems spare => uptoBulkAll elems + uptoBulkAll spare + 1
  | .agg parts => uptoBulkAll parts + 1
  | .iface _ d => uptoBulk d + 1
  | .map entries => uptoBulkEntries entries + 1
  | .held _ => 1
def uptoBulkAll {H : Type} : List (DataW H) → Nat
  | [] => 0
  | d :: r => uptoBulk d + uptoBulkAll r
def uptoBulkEntries {H : Type} : List (Lit × DataW H) → Nat
  | [] => 0
  | x :: r => uptoBulkEntry x + uptoBulkEntries r
def uptoBulkEntry {H : Type} : Lit × DataW H → Nat
  | (.string bytes, d) => bytes.length + uptoBulk d + 1
  | (_, d) => uptoBulk d + 1
 end
def uptoSmall : (H : Type) → List (DataW H) → Bool := fun _ ds => decide (uptoBulkAll ds ≤ 1048576)
def OpenSpec.upto (s : _root_.Go.ChangeSpec) : _root_.Go.OpenSpec := { _root_.Go.OpenSpec.ofChange s with cond := some uptoSmall }

/-- 'flightdecklaw34.ProfileValues', WHERE WHAT IT READS IS OF BULK AT MOST 1048576: true; the input reads as it did. -/
def profileValuesUptoRow : OpenClaim := { program := "ytgmpaffoajmmmaa", sum := "699048a3100b081bc66ee19a8400e8a4580a3b66b1811a4ea24497f091e66a10", func := "flightdeck/flightdecklaw34.ProfileValues", spec := "profileValues", unfollowed := true, recurses := true, named := ["math/bits.divideError", "math/bits.overflowError"], apart := false, narrowed := true }
def ProfileValuesUptoSaid : Prop := profileValuesUptoRow.holds Try.pinned (OpenSpec.upto profileValuesSpec)

/-- 'flightdecklaw34.ProfileBelow', WHERE WHAT IT READS IS OF BULK AT MOST 1048576: true; the input reads as it did. -/
def profileBelowUptoRow : OpenClaim := { program := "ytgmpaffoajmmmaa", sum := "699048a3100b081bc66ee19a8400e8a4580a3b66b1811a4ea24497f091e66a10", func := "flightdeck/flightdecklaw34.ProfileBelow", spec := "profileBelow", unfollowed := true, recurses := true, named := ["math/bits.divideError", "math/bits.overflowError"], apart := false, narrowed := true }
def ProfileBelowUptoSaid : Prop := profileBelowUptoRow.holds Try.pinned (OpenSpec.upto profileBelowSpec)

/-- 'flightdecklaw34.ProfileBetween', WHERE WHAT IT READS IS OF BULK AT MOST 1048576: true; the input reads as it did. -/
def profileBetweenUptoRow : OpenClaim := { program := "ytgmpaffoajmmmaa", sum := "699048a3100b081bc66ee19a8400e8a4580a3b66b1811a4ea24497f091e66a10", func := "flightdeck/flightdecklaw34.ProfileBetween", spec := "profileBetween", unfollowed := true, recurses := true, named := ["math/bits.divideError", "math/bits.overflowError"], apart := false, narrowed := true }
def ProfileBetweenUptoSaid : Prop := profileBetweenUptoRow.holds Try.pinned (OpenSpec.upto profileBetweenSpec)

/-- 'flightdecklaw34.ProfileWhere', WHERE WHAT IT READS IS OF BULK AT MOST 1048576: true; the input reads as it did. -/
def profileWhereUptoRow : OpenClaim := { program := "ytgmpaffoajmmmaa", sum := "699048a3100b081bc66ee19a8400e8a4580a3b66b1811a4ea24497f091e66a10", func := "flightdeck/flightdecklaw34.ProfileWhere", spec := "profileWhere", unfollowed := true, recurses := true, named := ["math/bits.divideError", "math/bits.overflowError"], apart := false, narrowed := true }
def ProfileWhereUptoSaid : Prop := profileWhereUptoRow.holds Try.pinned (OpenSpec.upto profileWhereSpec)

/-- 'flightdecklaw34.ProfileInside', WHERE WHAT IT READS IS OF BULK AT MOST 1048576: true; the input reads as it did. -/
def profileInsideUptoRow : OpenClaim := { program := "ytgmpaffoajmmmaa", sum := "699048a3100b081bc66ee19a8400e8a4580a3b66b1811a4ea24497f091e66a10", func := "flightdeck/flightdecklaw34.ProfileInside", spec := "profileInside", unfollowed := true, recurses := true, named := ["math/bits.divideError", "math/bits.overflowError"], apart := false, narrowed := true }
def ProfileInsideUptoSaid : Prop := profileInsideUptoRow.holds Try.pinned (OpenSpec.upto profileInsideSpec)

/-- 'flightdecklaw34.ProfileEased', WHERE WHAT IT READS IS OF BULK AT MOST 1048576: true; the input reads as it did. -/
def profileEasedUptoRow : OpenClaim := { program := "ytgmpaffoajmmmaa", sum := "699048a3100b081bc66ee19a8400e8a4580a3b66b1811a4ea24497f091e66a10", func := "flightdeck/flightdecklaw34.ProfileEased", spec := "profileEased", unfollowed := true, recurses := true, named := ["math/bits.divideError", "math/bits.overflowError"], apart := false, narrowed := true }
def ProfileEasedUptoSaid : Prop := profileEasedUptoRow.holds Try.pinned (OpenSpec.upto profileEasedSpec)

/-- 'flightdecklaw34.ProfileLattice', WHERE WHAT IT READS IS OF BULK AT MOST 1048576: true; the input reads as it did. -/
def profileLatticeUptoRow : OpenClaim := { program := "ytgmpaffoajmmmaa", sum := "699048a3100b081bc66ee19a8400e8a4580a3b66b1811a4ea24497f091e66a10", func := "flightdeck/flightdecklaw34.ProfileLattice", spec := "profileLattice", unfollowed := true, recurses := true, named := ["math/bits.divideError", "math/bits.overflowError"], apart := false, narrowed := true }
def ProfileLatticeUptoSaid : Prop := profileLatticeUptoRow.holds Try.pinned (OpenSpec.upto profileLatticeSpec)

/-- 'flightdecklaw34.ProfileCruise', WHERE WHAT IT READS IS OF BULK AT MOST 1048576: true; the input reads as it did. -/
def profileCruiseUptoRow : OpenClaim := { program := "ytgmpaffoajmmmaa", sum := "699048a3100b081bc66ee19a8400e8a4580a3b66b1811a4ea24497f091e66a10", func := "flightdeck/flightdecklaw34.ProfileCruise", spec := "profileCruise", unfollowed := true, recurses := true, named := ["math/bits.divideError", "math/bits.overflowError"], apart := false, narrowed := true }
def ProfileCruiseUptoSaid : Prop := profileCruiseUptoRow.holds Try.pinned (OpenSpec.upto profileCruiseSpec)

end Rows
end Go.Proofs.Ytgmpaffoajmmmaa
