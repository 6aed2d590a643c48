/-
  No cell of these rows narrows 'for every input' (looked for: loops, veiled, ifaces, maps, wideKeys, modest, calm, conditions, laid).
  DERIVED. THE GIVEN ROWS OF THIS SEAT. 8 by the template 'for every input the law returns true; each argument reads behind the call as it read before'; 0 by the template 'total and deterministic' (their statements: YtgplpapphmaafaaTotals.lean).
  GIVEN WITH THE SEED: the statements are not yours to turn. If you find one false, say at which input.
  Laid BY PROGRAM, IN A SANDBOX (cutbox-rows.mjs): the forced cells as the released guide's own fill.sh prints them over the translation e71dd05081225b40… (all of the seat's roots in one cut). By AI agents, Wed Nov 11 2026. No macro, syntax, notation, axiom, sorry.
-/
import Derived.Test.YtgplpapphmaafaaChecked
import GoSem.Claim
import GoSem.ClaimJoined
import GoSem.ClaimMapViews
import Derived.JoinedTies
import Derived.KernelRfl
namespace Go.Proofs.Ytgplpapphmaafaa
/- THE CELL 'sum', in the pinned program and in every row, IS THE sha256 OF THE DUMP (.gsa) THAT YtgplpapphmaafaaProg.lean LOADS. Nothing in Lean hashes anything: it is a label: what it is worth is what the hold of that sum in a sandbox is worth. -/
noncomputable def Try.pinned : Pinned := { name := "ytgplpapphmaafaa", sum := "e71dd05081225b4032e37749062a580a3b74d84f2b04d9d37fbf3eabbe507706", checked := Try.checked }
namespace Rows
def none {H : Type} : Left H := { results := [], args := [] }

/-- 'flightdecklaw35.SpeedplanSteps': WHATEVER THE INPUT: true; the input reads as it did. -/
def speedplanStepsSpec : ChangeSpec := { name := "speedplanSteps", fn := fun _ => fun
  | [d1, d2, d3] => { results := [.lit (.bool true)], args := [d1, d2, d3] }
  | _ => none }
def speedplanStepsRow : OpenClaim := { program := "ytgplpapphmaafaa", sum := "e71dd05081225b4032e37749062a580a3b74d84f2b04d9d37fbf3eabbe507706", func := "flightdeck/flightdecklaw35.SpeedplanSteps", spec := "speedplanSteps", named := ["math/bits.divideError", "math/bits.overflowError"], apart := false }
def SpeedplanStepsSaid : Prop := speedplanStepsRow.holds Try.pinned (OpenSpec.ofChange speedplanStepsSpec)

/-- ITS FALSE NEIGHBOUR: 'it returns false'. Refute it at one input. -/
def speedplanStepsWrong : ChangeSpec := { name := "speedplanSteps", fn := fun _ => fun
  | [d1, d2, d3] => { results := [.lit (.bool false)], args := [d1, d2, d3] }
  | _ => none }
def SpeedplanStepsWrongFalsely : Prop := speedplanStepsRow.holds Try.pinned (OpenSpec.ofChange speedplanStepsWrong)

/-- 'flightdecklaw35.SpeedplanPlans': WHATEVER THE INPUT: true; the input reads as it did. -/
def speedplanPlansSpec : ChangeSpec := { name := "speedplanPlans", fn := fun _ => fun
  | [d1, d2, d3] => { results := [.lit (.bool true)], args := [d1, d2, d3] }
  | _ => none }
def speedplanPlansRow : OpenClaim := { program := "ytgplpapphmaafaa", sum := "e71dd05081225b4032e37749062a580a3b74d84f2b04d9d37fbf3eabbe507706", func := "flightdeck/flightdecklaw35.SpeedplanPlans", spec := "speedplanPlans", named := ["math/bits.divideError", "math/bits.overflowError"], apart := false }
def SpeedplanPlansSaid : Prop := speedplanPlansRow.holds Try.pinned (OpenSpec.ofChange speedplanPlansSpec)

/-- ITS FALSE NEIGHBOUR: 'it returns false'. Refute it at one input. -/
def speedplanPlansWrong : ChangeSpec := { name := "speedplanPlans", fn := fun _ => fun
  | [d1, d2, d3] => { results := [.lit (.bool false)], args := [d1, d2, d3] }
  | _ => none }
def SpeedplanPlansWrongFalsely : Prop := speedplanPlansRow.holds Try.pinned (OpenSpec.ofChange speedplanPlansWrong)

/-- 'flightdecklaw35.SpeedplanFamily': WHATEVER THE INPUT: true; the input reads as it did. -/
def speedplanFamilySpec : ChangeSpec := { name := "speedplanFamily", fn := fun _ => fun
  | [d1, d2, d3] => { results := [.lit (.bool true)], args := [d1, d2, d3] }
  | _ => none }
def speedplanFamilyRow : OpenClaim := { program := "ytgplpapphmaafaa", sum := "e71dd05081225b4032e37749062a580a3b74d84f2b04d9d37fbf3eabbe507706", func := "flightdeck/flightdecklaw35.SpeedplanFamily", spec := "speedplanFamily", named := ["math/bits.divideError", "math/bits.overflowError"], apart := false }
def SpeedplanFamilySaid : Prop := speedplanFamilyRow.holds Try.pinned (OpenSpec.ofChange speedplanFamilySpec)

/-- ITS FALSE NEIGHBOUR: 'it returns false'. Refute it at one input. -/
def speedplanFamilyWrong : ChangeSpec := { name := "speedplanFamily", fn := fun _ => fun
  | [d1, d2, d3] => { results := [.lit (.bool false)], args := [d1, d2, d3] }
  | _ => none }
def SpeedplanFamilyWrongFalsely : Prop := speedplanFamilyRow.holds Try.pinned (OpenSpec.ofChange speedplanFamilyWrong)

/-- 'flightdecklaw35.SpeedplanChanges': WHATEVER THE INPUT: true; the input reads as it did. -/
def speedplanChangesSpec : ChangeSpec := { name := "speedplanChanges", fn := fun _ => fun
  | [d1, d2, d3] => { results := [.lit (.bool true)], args := [d1, d2, d3] }
  | _ => none }
def speedplanChangesRow : OpenClaim := { program := "ytgplpapphmaafaa", sum := "e71dd05081225b4032e37749062a580a3b74d84f2b04d9d37fbf3eabbe507706", func := "flightdeck/flightdecklaw35.SpeedplanChanges", spec := "speedplanChanges", named := ["math/bits.divideError", "math/bits.overflowError"], apart := false }
def SpeedplanChangesSaid : Prop := speedplanChangesRow.holds Try.pinned (OpenSpec.ofChange speedplanChangesSpec)

/-- ITS FALSE NEIGHBOUR: 'it returns false'. Refute it at one input. -/
def speedplanChangesWrong : ChangeSpec := { name := "speedplanChanges", fn := fun _ => fun
  | [d1, d2, d3] => { results := [.lit (.bool false)], args := [d1, d2, d3] }
  | _ => none }
def SpeedplanChangesWrongFalsely : Prop := speedplanChangesRow.holds Try.pinned (OpenSpec.ofChange speedplanChangesWrong)

/-- 'flightdecklaw35.SpeedplanTimes': WHATEVER THE INPUT: true; the input reads as it did. -/
def speedplanTimesSpec : ChangeSpec := { name := "speedplanTimes", fn := fun _ => fun
  | [d1, d2, d3] => { results := [.lit (.bool true)], args := [d1, d2, d3] }
  | _ => none }
def speedplanTimesRow : OpenClaim := { program := "ytgplpapphmaafaa", sum := "e71dd05081225b4032e37749062a580a3b74d84f2b04d9d37fbf3eabbe507706", func := "flightdeck/flightdecklaw35.SpeedplanTimes", spec := "speedplanTimes", named := ["math/bits.divideError", "math/bits.overflowError"], apart := false }
def SpeedplanTimesSaid : Prop := speedplanTimesRow.holds Try.pinned (OpenSpec.ofChange speedplanTimesSpec)

/-- ITS FALSE NEIGHBOUR: 'it returns false'. Refute it at one input. -/
def speedplanTimesWrong : ChangeSpec := { name := "speedplanTimes", fn := fun _ => fun
  | [d1, d2, d3] => { results := [.lit (.bool false)], args := [d1, d2, d3] }
  | _ => none }
def SpeedplanTimesWrongFalsely : Prop := speedplanTimesRow.holds Try.pinned (OpenSpec.ofChange speedplanTimesWrong)

/-- 'flightdecklaw35.SpeedplanCovers': WHATEVER THE INPUT: true; the input reads as it did. -/
def speedplanCoversSpec : ChangeSpec := { name := "speedplanCovers", fn := fun _ => fun
  | [d1, d2, d3] => { results := [.lit (.bool true)], args := [d1, d2, d3] }
  | _ => none }
def speedplanCoversRow : OpenClaim := { program := "ytgplpapphmaafaa", sum := "e71dd05081225b4032e37749062a580a3b74d84f2b04d9d37fbf3eabbe507706", func := "flightdeck/flightdecklaw35.SpeedplanCovers", spec := "speedplanCovers", named := ["math/bits.divideError", "math/bits.overflowError"], apart := false }
def SpeedplanCoversSaid : Prop := speedplanCoversRow.holds Try.pinned (OpenSpec.ofChange speedplanCoversSpec)

/-- ITS FALSE NEIGHBOUR: 'it returns false'. Refute it at one input. -/
def speedplanCoversWrong : ChangeSpec := { name := "speedplanCovers", fn := fun _ => fun
  | [d1, d2, d3] => { results := [.lit (.bool false)], args := [d1, d2, d3] }
  | _ => none }
def SpeedplanCoversWrongFalsely : Prop := speedplanCoversRow.holds Try.pinned (OpenSpec.ofChange speedplanCoversWrong)

/-- 'flightdecklaw35.SpeedplanLimits': WHATEVER THE INPUT: true; the input reads as it did. -/
def speedplanLimitsSpec : ChangeSpec := { name := "speedplanLimits", fn := fun _ => fun
  | [d1, d2, d3] => { results := [.lit (.bool true)], args := [d1, d2, d3] }
  | _ => none }
def speedplanLimitsRow : OpenClaim := { program := "ytgplpapphmaafaa", sum := "e71dd05081225b4032e37749062a580a3b74d84f2b04d9d37fbf3eabbe507706", func := "flightdeck/flightdecklaw35.SpeedplanLimits", spec := "speedplanLimits", named := ["math/bits.divideError", "math/bits.overflowError"], apart := false }
def SpeedplanLimitsSaid : Prop := speedplanLimitsRow.holds Try.pinned (OpenSpec.ofChange speedplanLimitsSpec)

/-- ITS FALSE NEIGHBOUR: 'it returns false'. Refute it at one input. -/
def speedplanLimitsWrong : ChangeSpec := { name := "speedplanLimits", fn := fun _ => fun
  | [d1, d2, d3] => { results := [.lit (.bool false)], args := [d1, d2, d3] }
  | _ => none }
def SpeedplanLimitsWrongFalsely : Prop := speedplanLimitsRow.holds Try.pinned (OpenSpec.ofChange speedplanLimitsWrong)

/-- 'flightdecklaw35.SpeedplanMembers': WHATEVER THE INPUT: true; the input reads as it did. -/
def speedplanMembersSpec : ChangeSpec := { name := "speedplanMembers", fn := fun _ => fun
  | [d1, d2, d3] => { results := [.lit (.bool true)], args := [d1, d2, d3] }
  | _ => none }
def speedplanMembersRow : OpenClaim := { program := "ytgplpapphmaafaa", sum := "e71dd05081225b4032e37749062a580a3b74d84f2b04d9d37fbf3eabbe507706", func := "flightdeck/flightdecklaw35.SpeedplanMembers", spec := "speedplanMembers", named := ["math/bits.divideError", "math/bits.overflowError"], apart := false }
def SpeedplanMembersSaid : Prop := speedplanMembersRow.holds Try.pinned (OpenSpec.ofChange speedplanMembersSpec)

/-- ITS FALSE NEIGHBOUR: 'it returns false'. Refute it at one input. -/
def speedplanMembersWrong : ChangeSpec := { name := "speedplanMembers", fn := fun _ => fun
  | [d1, d2, d3] => { results := [.lit (.bool false)], args := [d1, d2, d3] }
  | _ => none }
def SpeedplanMembersWrongFalsely : Prop := speedplanMembersRow.holds Try.pinned (OpenSpec.ofChange speedplanMembersWrong)

/- THE SECOND FORM. 'bulk': how many values and letters a reading holds, each counted each time it is reached (what is shared counts as often as it is met; a slice's spare places count too). A statement '..UptoSaid' is the law's where the arguments, and the package variables that the reading takes, are together of bulk at most 1048576: NARROWER than '..Said'. Prove '..Said' where nothing that the law and all that it calls make is longer than what came in: it says more and counts as full. Else prove '..UptoSaid'. A law counts once. -/
mutual
def uptoBulk {H : Type} : DataW H → Nat
  | .lit (.string bytes) => bytes.length + 1
  | .lit _ => 1
  | .nil => 1
  | .ptr d => uptoBulk d + 1
  | .slice elems spare => uptoBulkAll elems + uptoBulkAll spare + 1
  | .agg parts => uptoBulkAll parts + 1
  | .iface _ d => uptoBulk d + 1
  | .map entries => uptoBulkEntries entries + 1
  | .held _ => 1
def uptoBulkAll {H : Type} : List (DataW H) → Nat
  | [] => 0
  | d :: r => uptoBulk d + uptoBulkAll r
def uptoBulkEntries {H : Type} : List (Lit × DataW H) → Nat
  | [] => 0
  | x :: r => uptoBulkEntry x + uptoBulkEntries r
def uptoBulkEntry {H : Type} : Lit × DataW H → Nat
  | (.string bytes, d) => bytes.length + uptoBulk d + 1
  | (_, d) => uptoBulk d + 1
 end
def uptoSmall : (H : Type) → List (DataW H) → Bool := fun _ ds => decide (uptoBulkAll ds ≤ 1048576)
def OpenSpec.upto (s : _root_.Go.ChangeSpec) : _root_.Go.OpenSpec := { _root_.Go.OpenSpec.ofChange s with cond := some uptoSmall }

/-- 'flightdecklaw35.SpeedplanSteps', WHERE WHAT IT READS IS OF BULK AT MOST 1048576: true; the input reads as it did. -/
def speedplanStepsUptoRow : OpenClaim := { program := "ytgplpapphmaafaa", sum := "e71dd05081225b4032e37749062a580a3b74d84f2b04d9d37fbf3eabbe507706", func := "flightdeck/flightdecklaw35.SpeedplanSteps", spec := "speedplanSteps", named := ["math/bits.divideError", "math/bits.overflowError"], apart := false, narrowed := true }
def SpeedplanStepsUptoSaid : Prop := speedplanStepsUptoRow.holds Try.pinned (OpenSpec.upto speedplanStepsSpec)

/-- 'flightdecklaw35.SpeedplanPlans', WHERE WHAT IT READS IS OF BULK AT MOST 1048576: true; the input reads as it did. -/
def speedplanPlansUptoRow : OpenClaim := { program := "ytgplpapphmaafaa", sum := "e71dd05081225b4032e37749062a580a3b74d84f2b04d9d37fbf3eabbe507706", func := "flightdeck/flightdecklaw35.SpeedplanPlans", spec := "speedplanPlans", named := ["math/bits.divideError", "math/bits.overflowError"], apart := false, narrowed := true }
def SpeedplanPlansUptoSaid : Prop := speedplanPlansUptoRow.holds Try.pinned (OpenSpec.upto speedplanPlansSpec)

/-- 'flightdecklaw35.SpeedplanFamily', WHERE WHAT IT READS IS OF BULK AT MOST 1048576: true; the input reads as it did. -/
def speedplanFamilyUptoRow : OpenClaim := { program := "ytgplpapphmaafaa", sum := "e71dd05081225b4032e37749062a580a3b74d84f2b04d9d37fbf3eabbe507706", func := "flightdeck/flightdecklaw35.SpeedplanFamily", spec := "speedplanFamily", named := ["math/bits.divideError", "math/bits.overflowError"], apart := false, narrowed := true }
def SpeedplanFamilyUptoSaid : Prop := speedplanFamilyUptoRow.holds Try.pinned (OpenSpec.upto speedplanFamilySpec)

/-- 'flightdecklaw35.SpeedplanChanges', WHERE WHAT IT READS IS OF BULK AT MOST 1048576: true; the input reads as it did. -/
def speedplanChangesUptoRow : OpenClaim := { program := "ytgplpapphmaafaa", sum := "e71dd05081225b4032e37749062a580a3b74d84f2b04d9d37fbf3eabbe507706", func := "flightdeck/flightdecklaw35.SpeedplanChanges", spec := "speedplanChanges", named := ["math/bits.divideError", "math/bits.overflowError"], apart := false, narrowed := true }
def SpeedplanChangesUptoSaid : Prop := speedplanChangesUptoRow.holds Try.pinned (OpenSpec.upto speedplanChangesSpec)

/-- 'flightdecklaw35.SpeedplanTimes', WHERE WHAT IT READS IS OF BULK AT MOST 1048576: true; the input reads as it did. -/
def speedplanTimesUptoRow : OpenClaim := { program := "ytgplpapphmaafaa", sum := "e71dd05081225b4032e37749062a580a3b74d84f2b04d9d37fbf3eabbe507706", func := "flightdeck/flightdecklaw35.SpeedplanTimes", spec := "speedplanTimes", named := ["math/bits.divideError", "math/bits.overflowError"], apart := false, narrowed := true }
def SpeedplanTimesUptoSaid : Prop := speedplanTimesUptoRow.holds Try.pinned (OpenSpec.upto speedplanTimesSpec)

/-- 'flightdecklaw35.SpeedplanCovers', WHERE WHAT IT READS IS OF BULK AT MOST 1048576: true; the input reads as it did. -/
def speedplanCoversUptoRow : OpenClaim := { program := "ytgplpapphmaafaa", sum := "e71dd05081225b4032e37749062a580a3b74d84f2b04d9d37fbf3eabbe507706", func := "flightdeck/flightdecklaw35.SpeedplanCovers", spec := "speedplanCovers", named := ["math/bits.divideError", "math/bits.overflowError"], apart := false, narrowed := true }
def SpeedplanCoversUptoSaid : Prop := speedplanCoversUptoRow.holds Try.pinned (OpenSpec.upto speedplanCoversSpec)

/-- 'flightdecklaw35.SpeedplanLimits', WHERE WHAT IT READS IS OF BULK AT MOST 1048576: true; the input reads as it did. -/
def speedplanLimitsUptoRow : OpenClaim := { program := "ytgplpapphmaafaa", sum := "e71dd05081225b4032e37749062a580a3b74d84f2b04d9d37fbf3eabbe507706", func := "flightdeck/flightdecklaw35.SpeedplanLimits", spec := "speedplanLimits", named := ["math/bits.divideError", "math/bits.overflowError"], apart := false, narrowed := true }
def SpeedplanLimitsUptoSaid : Prop := speedplanLimitsUptoRow.holds Try.pinned (OpenSpec.upto speedplanLimitsSpec)

/-- 'flightdecklaw35.SpeedplanMembers', WHERE WHAT IT READS IS OF BULK AT MOST 1048576: true; the input reads as it did. -/
def speedplanMembersUptoRow : OpenClaim := { program := "ytgplpapphmaafaa", sum := "e71dd05081225b4032e37749062a580a3b74d84f2b04d9d37fbf3eabbe507706", func := "flightdeck/flightdecklaw35.SpeedplanMembers", spec := "speedplanMembers", named := ["math/bits.divideError", "math/bits.overflowError"], apart := false, narrowed := true }
def SpeedplanMembersUptoSaid : Prop := speedplanMembersUptoRow.holds Try.pinned (OpenSpec.upto speedplanMembersSpec)

end Rows
end Go.Proofs.Ytgplpapphmaafaa
