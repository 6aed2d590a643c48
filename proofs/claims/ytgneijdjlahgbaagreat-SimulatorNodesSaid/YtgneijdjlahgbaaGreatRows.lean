/-
  No cell of these rows narrows 'for every input' (looked for: loops, veiled, ifaces, maps, wideKeys, modest, calm, conditions, laid).
  DERIVED. THE GIVEN ROWS OF THIS SEAT. 12 by the template 'for every input the law returns true; each argument reads behind the call as it read before'; 0 by the template 'total and deterministic' (their statements: YtgneijdjlahgbaaGreatTotals.lean).
  GIVEN WITH THE SEED: the statements are not yours to turn. If you find one false, say at which input.
  Laid BY PROGRAM, IN A SANDBOX (cutbox-rows.mjs): the forced cells as the released guide's own fill.sh prints them over the translation fd6f4c17e27dad63… (all of the seat's roots in one cut). By AI agents, Wed Nov 11 2026. No macro, syntax, notation, axiom, sorry.
-/
import Derived.Test.YtgneijdjlahgbaaGreatChecked
import GoSem.Claim
import GoSem.ClaimJoined
import GoSem.ClaimMapViews
import Derived.JoinedTies
import Derived.KernelRfl
namespace Go.Proofs.YtgneijdjlahgbaaGreat
/- THE CELL 'sum', in the pinned program and in every row, IS THE sha256 OF THE DUMP (.gsa) THAT YtgneijdjlahgbaaGreatProg.lean LOADS. Nothing in Lean hashes anything: it is a label: what it is worth is what the hold of that sum in a sandbox is worth. -/
noncomputable def Tryz.pinned : Pinned := { name := "ytgneijdjlahgbaagreat", sum := "fd6f4c17e27dad63f0c37e163597817a36bc3d1d3c17efdf10048696be596814", checked := Tryz.checked }
namespace Rows
def none {H : Type} : Left H := { results := [], args := [] }

/-- 'flightdecktop.TopArrival': WHATEVER THE INPUT: true; the input reads as it did. -/
def topArrivalSpec : ChangeSpec := { name := "topArrival", fn := fun _ => fun
  | [d1, d2] => { results := [.lit (.bool true)], args := [d1, d2] }
  | _ => none }
def topArrivalRow : OpenClaim := { program := "ytgneijdjlahgbaagreat", sum := "fd6f4c17e27dad63f0c37e163597817a36bc3d1d3c17efdf10048696be596814", func := "flightdeck/flightdecktop.TopArrival", spec := "topArrival", unfollowed := true, recurses := true, named := ["math/bits.divideError", "math/bits.overflowError"], apart := false }
def TopArrivalSaid : Prop := topArrivalRow.holds Tryz.pinned (OpenSpec.ofChange topArrivalSpec)

/-- ITS FALSE NEIGHBOUR: 'it returns false'. Refute it at one input. -/
def topArrivalWrong : ChangeSpec := { name := "topArrival", fn := fun _ => fun
  | [d1, d2] => { results := [.lit (.bool false)], args := [d1, d2] }
  | _ => none }
def TopArrivalWrongFalsely : Prop := topArrivalRow.holds Tryz.pinned (OpenSpec.ofChange topArrivalWrong)

/-- 'flightdecktop.TopFuel': WHATEVER THE INPUT: true; the input reads as it did. -/
def topFuelSpec : ChangeSpec := { name := "topFuel", fn := fun _ => fun
  | [d1, d2] => { results := [.lit (.bool true)], args := [d1, d2] }
  | _ => none }
def topFuelRow : OpenClaim := { program := "ytgneijdjlahgbaagreat", sum := "fd6f4c17e27dad63f0c37e163597817a36bc3d1d3c17efdf10048696be596814", func := "flightdeck/flightdecktop.TopFuel", spec := "topFuel", unfollowed := true, recurses := true, named := ["math/bits.divideError", "math/bits.overflowError"], apart := false }
def TopFuelSaid : Prop := topFuelRow.holds Tryz.pinned (OpenSpec.ofChange topFuelSpec)

/-- ITS FALSE NEIGHBOUR: 'it returns false'. Refute it at one input. -/
def topFuelWrong : ChangeSpec := { name := "topFuel", fn := fun _ => fun
  | [d1, d2] => { results := [.lit (.bool false)], args := [d1, d2] }
  | _ => none }
def TopFuelWrongFalsely : Prop := topFuelRow.holds Tryz.pinned (OpenSpec.ofChange topFuelWrong)

/-- 'flightdecklaw37.PredictMeets': WHATEVER THE INPUT: true; the input reads as it did. -/
def predictMeetsSpec : ChangeSpec := { name := "predictMeets", fn := fun _ => fun
  | [d] => { results := [.lit (.bool true)], args := [d] }
  | _ => none }
def predictMeetsRow : OpenClaim := { program := "ytgneijdjlahgbaagreat", sum := "fd6f4c17e27dad63f0c37e163597817a36bc3d1d3c17efdf10048696be596814", func := "flightdeck/flightdecklaw37.PredictMeets", spec := "predictMeets", unfollowed := true, recurses := true, named := ["math/bits.divideError", "math/bits.overflowError"], apart := false }
def PredictMeetsSaid : Prop := predictMeetsRow.holds Tryz.pinned (OpenSpec.ofChange predictMeetsSpec)

/-- ITS FALSE NEIGHBOUR: 'it returns false'. Refute it at one input. -/
def predictMeetsWrong : ChangeSpec := { name := "predictMeets", fn := fun _ => fun
  | [d] => { results := [.lit (.bool false)], args := [d] }
  | _ => none }
def PredictMeetsWrongFalsely : Prop := predictMeetsRow.holds Tryz.pinned (OpenSpec.ofChange predictMeetsWrong)

/-- 'flightdecklaw37.PredictFaster': WHATEVER THE INPUT: true; the input reads as it did. -/
def predictFasterSpec : ChangeSpec := { name := "predictFaster", fn := fun _ => fun
  | [d1, d2, d3] => { results := [.lit (.bool true)], args := [d1, d2, d3] }
  | _ => none }
def predictFasterRow : OpenClaim := { program := "ytgneijdjlahgbaagreat", sum := "fd6f4c17e27dad63f0c37e163597817a36bc3d1d3c17efdf10048696be596814", func := "flightdeck/flightdecklaw37.PredictFaster", spec := "predictFaster", unfollowed := true, recurses := true, named := ["math/bits.divideError", "math/bits.overflowError"], apart := false }
def PredictFasterSaid : Prop := predictFasterRow.holds Tryz.pinned (OpenSpec.ofChange predictFasterSpec)

/-- ITS FALSE NEIGHBOUR: 'it returns false'. Refute it at one input. -/
def predictFasterWrong : ChangeSpec := { name := "predictFaster", fn := fun _ => fun
  | [d1, d2, d3] => { results := [.lit (.bool false)], args := [d1, d2, d3] }
  | _ => none }
def PredictFasterWrongFalsely : Prop := predictFasterRow.holds Tryz.pinned (OpenSpec.ofChange predictFasterWrong)

/-- 'flightdecklaw37.PredictNames': WHATEVER THE INPUT: true; the input reads as it did. -/
def predictNamesSpec : ChangeSpec := { name := "predictNames", fn := fun _ => fun
  | [d] => { results := [.lit (.bool true)], args := [d] }
  | _ => none }
def predictNamesRow : OpenClaim := { program := "ytgneijdjlahgbaagreat", sum := "fd6f4c17e27dad63f0c37e163597817a36bc3d1d3c17efdf10048696be596814", func := "flightdeck/flightdecklaw37.PredictNames", spec := "predictNames", unfollowed := true, recurses := true, named := ["math/bits.divideError", "math/bits.overflowError"], apart := false }
def PredictNamesSaid : Prop := predictNamesRow.holds Tryz.pinned (OpenSpec.ofChange predictNamesSpec)

/-- ITS FALSE NEIGHBOUR: 'it returns false'. Refute it at one input. -/
def predictNamesWrong : ChangeSpec := { name := "predictNames", fn := fun _ => fun
  | [d] => { results := [.lit (.bool false)], args := [d] }
  | _ => none }
def PredictNamesWrongFalsely : Prop := predictNamesRow.holds Tryz.pinned (OpenSpec.ofChange predictNamesWrong)

/-- 'flightdecklaw37.PredictEncloses': WHATEVER THE INPUT: true; the input reads as it did. -/
def predictEnclosesSpec : ChangeSpec := { name := "predictEncloses", fn := fun _ => fun
  | [d1, d2] => { results := [.lit (.bool true)], args := [d1, d2] }
  | _ => none }
def predictEnclosesRow : OpenClaim := { program := "ytgneijdjlahgbaagreat", sum := "fd6f4c17e27dad63f0c37e163597817a36bc3d1d3c17efdf10048696be596814", func := "flightdeck/flightdecklaw37.PredictEncloses", spec := "predictEncloses", unfollowed := true, recurses := true, named := ["math/bits.divideError", "math/bits.overflowError"], apart := false }
def PredictEnclosesSaid : Prop := predictEnclosesRow.holds Tryz.pinned (OpenSpec.ofChange predictEnclosesSpec)

/-- ITS FALSE NEIGHBOUR: 'it returns false'. Refute it at one input. -/
def predictEnclosesWrong : ChangeSpec := { name := "predictEncloses", fn := fun _ => fun
  | [d1, d2] => { results := [.lit (.bool false)], args := [d1, d2] }
  | _ => none }
def PredictEnclosesWrongFalsely : Prop := predictEnclosesRow.holds Tryz.pinned (OpenSpec.ofChange predictEnclosesWrong)

/-- 'flightdecklaw38.RtaArrives': WHATEVER THE INPUT: true; the input reads as it did. -/
def rtaArrivesSpec : ChangeSpec := { name := "rtaArrives", fn := fun _ => fun
  | [d1, d2, d3] => { results := [.lit (.bool true)], args := [d1, d2, d3] }
  | _ => none }
def rtaArrivesRow : OpenClaim := { program := "ytgneijdjlahgbaagreat", sum := "fd6f4c17e27dad63f0c37e163597817a36bc3d1d3c17efdf10048696be596814", func := "flightdeck/flightdecklaw38.RtaArrives", spec := "rtaArrives", unfollowed := true, recurses := true, named := ["math/bits.divideError", "math/bits.overflowError"], apart := false }
def RtaArrivesSaid : Prop := rtaArrivesRow.holds Tryz.pinned (OpenSpec.ofChange rtaArrivesSpec)

/-- ITS FALSE NEIGHBOUR: 'it returns false'. Refute it at one input. -/
def rtaArrivesWrong : ChangeSpec := { name := "rtaArrives", fn := fun _ => fun
  | [d1, d2, d3] => { results := [.lit (.bool false)], args := [d1, d2, d3] }
  | _ => none }
def RtaArrivesWrongFalsely : Prop := rtaArrivesRow.holds Tryz.pinned (OpenSpec.ofChange rtaArrivesWrong)

/-- 'flightdecklaw38.RtaExcludes': WHATEVER THE INPUT: true; the input reads as it did. -/
def rtaExcludesSpec : ChangeSpec := { name := "rtaExcludes", fn := fun _ => fun
  | [d1, d2, d3] => { results := [.lit (.bool true)], args := [d1, d2, d3] }
  | _ => none }
def rtaExcludesRow : OpenClaim := { program := "ytgneijdjlahgbaagreat", sum := "fd6f4c17e27dad63f0c37e163597817a36bc3d1d3c17efdf10048696be596814", func := "flightdeck/flightdecklaw38.RtaExcludes", spec := "rtaExcludes", unfollowed := true, recurses := true, named := ["math/bits.divideError", "math/bits.overflowError"], apart := false }
def RtaExcludesSaid : Prop := rtaExcludesRow.holds Tryz.pinned (OpenSpec.ofChange rtaExcludesSpec)

/-- ITS FALSE NEIGHBOUR: 'it returns false'. Refute it at one input. -/
def rtaExcludesWrong : ChangeSpec := { name := "rtaExcludes", fn := fun _ => fun
  | [d1, d2, d3] => { results := [.lit (.bool false)], args := [d1, d2, d3] }
  | _ => none }
def RtaExcludesWrongFalsely : Prop := rtaExcludesRow.holds Tryz.pinned (OpenSpec.ofChange rtaExcludesWrong)

/-- 'flightdecklaw38.RtaMembers': WHATEVER THE INPUT: true; the input reads as it did. -/
def rtaMembersSpec : ChangeSpec := { name := "rtaMembers", fn := fun _ => fun
  | [d1, d2, d3] => { results := [.lit (.bool true)], args := [d1, d2, d3] }
  | _ => none }
def rtaMembersRow : OpenClaim := { program := "ytgneijdjlahgbaagreat", sum := "fd6f4c17e27dad63f0c37e163597817a36bc3d1d3c17efdf10048696be596814", func := "flightdeck/flightdecklaw38.RtaMembers", spec := "rtaMembers", unfollowed := true, recurses := true, named := ["math/bits.divideError", "math/bits.overflowError"], apart := false }
def RtaMembersSaid : Prop := rtaMembersRow.holds Tryz.pinned (OpenSpec.ofChange rtaMembersSpec)

/-- ITS FALSE NEIGHBOUR: 'it returns false'. Refute it at one input. -/
def rtaMembersWrong : ChangeSpec := { name := "rtaMembers", fn := fun _ => fun
  | [d1, d2, d3] => { results := [.lit (.bool false)], args := [d1, d2, d3] }
  | _ => none }
def RtaMembersWrongFalsely : Prop := rtaMembersRow.holds Tryz.pinned (OpenSpec.ofChange rtaMembersWrong)

/-- 'flightdecklaw38.RtaBinds': WHATEVER THE INPUT: true; the input reads as it did. -/
def rtaBindsSpec : ChangeSpec := { name := "rtaBinds", fn := fun _ => fun
  | [d1, d2] => { results := [.lit (.bool true)], args := [d1, d2] }
  | _ => none }
def rtaBindsRow : OpenClaim := { program := "ytgneijdjlahgbaagreat", sum := "fd6f4c17e27dad63f0c37e163597817a36bc3d1d3c17efdf10048696be596814", func := "flightdeck/flightdecklaw38.RtaBinds", spec := "rtaBinds", unfollowed := true, recurses := true, named := ["math/bits.divideError", "math/bits.overflowError"], apart := false }
def RtaBindsSaid : Prop := rtaBindsRow.holds Tryz.pinned (OpenSpec.ofChange rtaBindsSpec)

/-- ITS FALSE NEIGHBOUR: 'it returns false'. Refute it at one input. -/
def rtaBindsWrong : ChangeSpec := { name := "rtaBinds", fn := fun _ => fun
  | [d1, d2] => { results := [.lit (.bool false)], args := [d1, d2] }
  | _ => none }
def RtaBindsWrongFalsely : Prop := rtaBindsRow.holds Tryz.pinned (OpenSpec.ofChange rtaBindsWrong)

/-- 'flightdecklaw59.SimulatorNodes': WHATEVER THE INPUT: true; the input reads as it did. -/
def simulatorNodesSpec : ChangeSpec := { name := "simulatorNodes", fn := fun _ => fun
  | [d] => { results := [.lit (.bool true)], args := [d] }
  | _ => none }
def simulatorNodesRow : OpenClaim := { program := "ytgneijdjlahgbaagreat", sum := "fd6f4c17e27dad63f0c37e163597817a36bc3d1d3c17efdf10048696be596814", func := "flightdeck/flightdecklaw59.SimulatorNodes", spec := "simulatorNodes", unfollowed := true, recurses := true, named := ["math/bits.divideError", "math/bits.overflowError"], apart := false }
def SimulatorNodesSaid : Prop := simulatorNodesRow.holds Tryz.pinned (OpenSpec.ofChange simulatorNodesSpec)

/-- ITS FALSE NEIGHBOUR: 'it returns false'. Refute it at one input. -/
def simulatorNodesWrong : ChangeSpec := { name := "simulatorNodes", fn := fun _ => fun
  | [d] => { results := [.lit (.bool false)], args := [d] }
  | _ => none }
def SimulatorNodesWrongFalsely : Prop := simulatorNodesRow.holds Tryz.pinned (OpenSpec.ofChange simulatorNodesWrong)

/-- 'flightdecktop.TopTime': WHATEVER THE INPUT: true; the input reads as it did. -/
def topTimeSpec : ChangeSpec := { name := "topTime", fn := fun _ => fun
  | [d1, d2, d3] => { results := [.lit (.bool true)], args := [d1, d2, d3] }
  | _ => none }
def topTimeRow : OpenClaim := { program := "ytgneijdjlahgbaagreat", sum := "fd6f4c17e27dad63f0c37e163597817a36bc3d1d3c17efdf10048696be596814", func := "flightdeck/flightdecktop.TopTime", spec := "topTime", unfollowed := true, recurses := true, named := ["math/bits.divideError", "math/bits.overflowError"], apart := false }
def TopTimeSaid : Prop := topTimeRow.holds Tryz.pinned (OpenSpec.ofChange topTimeSpec)

/-- ITS FALSE NEIGHBOUR: 'it returns false'. Refute it at one input. -/
def topTimeWrong : ChangeSpec := { name := "topTime", fn := fun _ => fun
  | [d1, d2, d3] => { results := [.lit (.bool false)], args := [d1, d2, d3] }
  | _ => none }
def TopTimeWrongFalsely : Prop := topTimeRow.holds Tryz.pinned (OpenSpec.ofChange topTimeWrong)

/- THE SECOND FORM. 'bulk': how many values and letters a reading holds, each counted each time it is reached (what is shared counts as often as it is met; a slice's spare places count too). A statement '..UptoSaid' is the law's where the arguments, and the package variables that the reading takes, are together of bulk at most 1048576: NARROWER than '..Said'. Prove '..Said' where nothing that the law and all that it calls make is longer than what came in: it says more and counts as full. Else prove '..UptoSaid'. A law counts once. -/
mutual
def uptoBulk {H : Type} : DataW H → Nat
  | .lit (.string bytes) => bytes.length + 1
  | .lit _ => 1
  | .nil => 1
  | .ptr d => uptoBulk d + 1
  | .slice elems spare => uptoBulkAll elems + uptoBulkAll spare + 1
  | .agg parts => uptoBulkAll parts + 1
  | .iface _ d => uptoBulk d + 1
  | .map entries => uptoBulkEntries entries + 1
  | .held _ => 1
def uptoBulkAll {H : Type} : List (DataW H) → Nat
  | [] => 0
  | d :: r => uptoBulk d + uptoBulkAll r
def uptoBulkEntries {H : Type} : List (Lit × DataW H) → Nat
  | [] => 0
  | x :: r => uptoBulkEntry x + uptoBulkEntries r
def uptoBulkEntry {H : Type} : Lit × DataW H → Nat
  | (.string bytes, d) => bytes.length + uptoBulk d + 1
  | (_, d) => uptoBulk d + 1
 end
def uptoSmall : (H : Type) → List (DataW H) → Bool := fun _ ds => decide (uptoBulkAll ds ≤ 1048576)
def OpenSpec.upto (s : _root_.Go.ChangeSpec) : _root_.Go.OpenSpec := { _root_.Go.OpenSpec.ofChange s with cond := some uptoSmall }

/-- 'flightdecktop.TopArrival', WHERE WHAT IT READS IS OF BULK AT MOST 1048576: true; the input reads as it did. -/
def topArrivalUptoRow : OpenClaim := { program := "ytgneijdjlahgbaagreat", sum := "fd6f4c17e27dad63f0c37e163597817a36bc3d1d3c17efdf10048696be596814", func := "flightdeck/flightdecktop.TopArrival", spec := "topArrival", unfollowed := true, recurses := true, named := ["math/bits.divideError", "math/bits.overflowError"], apart := false, narrowed := true }
def TopArrivalUptoSaid : Prop := topArrivalUptoRow.holds Tryz.pinned (OpenSpec.upto topArrivalSpec)

/-- 'flightdecktop.TopFuel', WHERE WHAT IT READS IS OF BULK AT MOST 1048576: true; the input reads as it did. -/
def topFuelUptoRow : OpenClaim := { program := "ytgneijdjlahgbaagreat", sum := "fd6f4c17e27dad63f0c37e163597817a36bc3d1d3c17efdf10048696be596814", func := "flightdeck/flightdecktop.TopFuel", spec := "topFuel", unfollowed := true, recurses := true, named := ["math/bits.divideError", "math/bits.overflowError"], apart := false, narrowed := true }
def TopFuelUptoSaid : Prop := topFuelUptoRow.holds Tryz.pinned (OpenSpec.upto topFuelSpec)

/-- 'flightdecklaw37.PredictMeets', WHERE WHAT IT READS IS OF BULK AT MOST 1048576: true; the input reads as it did. -/
def predictMeetsUptoRow : OpenClaim := { program := "ytgneijdjlahgbaagreat", sum := "fd6f4c17e27dad63f0c37e163597817a36bc3d1d3c17efdf10048696be596814", func := "flightdeck/flightdecklaw37.PredictMeets", spec := "predictMeets", unfollowed := true, recurses := true, named := ["math/bits.divideError", "math/bits.overflowError"], apart := false, narrowed := true }
def PredictMeetsUptoSaid : Prop := predictMeetsUptoRow.holds Tryz.pinned (OpenSpec.upto predictMeetsSpec)

/-- 'flightdecklaw37.PredictFaster', WHERE WHAT IT READS IS OF BULK AT MOST 1048576: true; the input reads as it did. -/
def predictFasterUptoRow : OpenClaim := { program := "ytgneijdjlahgbaagreat", sum := "fd6f4c17e27dad63f0c37e163597817a36bc3d1d3c17efdf10048696be596814", func := "flightdeck/flightdecklaw37.PredictFaster", spec := "predictFaster", unfollowed := true, recurses := true, named := ["math/bits.divideError", "math/bits.overflowError"], apart := false, narrowed := true }
def PredictFasterUptoSaid : Prop := predictFasterUptoRow.holds Tryz.pinned (OpenSpec.upto predictFasterSpec)

/-- 'flightdecklaw37.PredictNames', WHERE WHAT IT READS IS OF BULK AT MOST 1048576: true; the input reads as it did. -/
def predictNamesUptoRow : OpenClaim := { program := "ytgneijdjlahgbaagreat", sum := "fd6f4c17e27dad63f0c37e163597817a36bc3d1d3c17efdf10048696be596814", func := "flightdeck/flightdecklaw37.PredictNames", spec := "predictNames", unfollowed := true, recurses := true, named := ["math/bits.divideError", "math/bits.overflowError"], apart := false, narrowed := true }
def PredictNamesUptoSaid : Prop := predictNamesUptoRow.holds Tryz.pinned (OpenSpec.upto predictNamesSpec)

/-- 'flightdecklaw37.PredictEncloses', WHERE WHAT IT READS IS OF BULK AT MOST 1048576: true; the input reads as it did. -/
def predictEnclosesUptoRow : OpenClaim := { program := "ytgneijdjlahgbaagreat", sum := "fd6f4c17e27dad63f0c37e163597817a36bc3d1d3c17efdf10048696be596814", func := "flightdeck/flightdecklaw37.PredictEncloses", spec := "predictEncloses", unfollowed := true, recurses := true, named := ["math/bits.divideError", "math/bits.overflowError"], apart := false, narrowed := true }
def PredictEnclosesUptoSaid : Prop := predictEnclosesUptoRow.holds Tryz.pinned (OpenSpec.upto predictEnclosesSpec)

/-- 'flightdecklaw38.RtaArrives', WHERE WHAT IT READS IS OF BULK AT MOST 1048576: true; the input reads as it did. -/
def rtaArrivesUptoRow : OpenClaim := { program := "ytgneijdjlahgbaagreat", sum := "fd6f4c17e27dad63f0c37e163597817a36bc3d1d3c17efdf10048696be596814", func := "flightdeck/flightdecklaw38.RtaArrives", spec := "rtaArrives", unfollowed := true, recurses := true, named := ["math/bits.divideError", "math/bits.overflowError"], apart := false, narrowed := true }
def RtaArrivesUptoSaid : Prop := rtaArrivesUptoRow.holds Tryz.pinned (OpenSpec.upto rtaArrivesSpec)

/-- 'flightdecklaw38.RtaExcludes', WHERE WHAT IT READS IS OF BULK AT MOST 1048576: true; the input reads as it did. -/
def rtaExcludesUptoRow : OpenClaim := { program := "ytgneijdjlahgbaagreat", sum := "fd6f4c17e27dad63f0c37e163597817a36bc3d1d3c17efdf10048696be596814", func := "flightdeck/flightdecklaw38.RtaExcludes", spec := "rtaExcludes", unfollowed := true, recurses := true, named := ["math/bits.divideError", "math/bits.overflowError"], apart := false, narrowed := true }
def RtaExcludesUptoSaid : Prop := rtaExcludesUptoRow.holds Tryz.pinned (OpenSpec.upto rtaExcludesSpec)

/-- 'flightdecklaw38.RtaMembers', WHERE WHAT IT READS IS OF BULK AT MOST 1048576: true; the input reads as it did. -/
def rtaMembersUptoRow : OpenClaim := { program := "ytgneijdjlahgbaagreat", sum := "fd6f4c17e27dad63f0c37e163597817a36bc3d1d3c17efdf10048696be596814", func := "flightdeck/flightdecklaw38.RtaMembers", spec := "rtaMembers", unfollowed := true, recurses := true, named := ["math/bits.divideError", "math/bits.overflowError"], apart := false, narrowed := true }
def RtaMembersUptoSaid : Prop := rtaMembersUptoRow.holds Tryz.pinned (OpenSpec.upto rtaMembersSpec)

/-- 'flightdecklaw38.RtaBinds', WHERE WHAT IT READS IS OF BULK AT MOST 1048576: true; the input reads as it did. -/
def rtaBindsUptoRow : OpenClaim := { program := "ytgneijdjlahgbaagreat", sum := "fd6f4c17e27dad63f0c37e163597817a36bc3d1d3c17efdf10048696be596814", func := "flightdeck/flightdecklaw38.RtaBinds", spec := "rtaBinds", unfollowed := true, recurses := true, named := ["math/bits.divideError", "math/bits.overflowError"], apart := false, narrowed := true }
def RtaBindsUptoSaid : Prop := rtaBindsUptoRow.holds Tryz.pinned (OpenSpec.upto rtaBindsSpec)

/-- 'flightdecklaw59.SimulatorNodes', WHERE WHAT IT READS IS OF BULK AT MOST 1048576: true; the input reads as it did. -/
def simulatorNodesUptoRow : OpenClaim := { program := "ytgneijdjlahgbaagreat", sum := "fd6f4c17e27dad63f0c37e163597817a36bc3d1d3c17efdf10048696be596814", func := "flightdeck/flightdecklaw59.SimulatorNodes", spec := "simulatorNodes", unfollowed := true, recurses := true, named := ["math/bits.divideError", "math/bits.overflowError"], apart := false, narrowed := true }
def SimulatorNodesUptoSaid : Prop := simulatorNodesUptoRow.holds Tryz.pinned (OpenSpec.upto simulatorNodesSpec)

/-- 'flightdecktop.TopTime', WHERE WHAT IT READS IS OF BULK AT MOST 1048576: true; the input reads as it did. -/
def topTimeUptoRow : OpenClaim := { program := "ytgneijdjlahgbaagreat", sum := "fd6f4c17e27dad63f0c37e163597817a36bc3d1d3c17efdf10048696be596814", func := "flightdeck/flightdecktop.TopTime", spec := "topTime", unfollowed := true, recurses := true, named := ["math/bits.divideError", "math/bits.overflowError"], apart := false, narrowed := true }
def TopTimeUptoSaid : Prop := topTimeUptoRow.holds Tryz.pinned (OpenSpec.upto topTimeSpec)

end Rows
end Go.Proofs.YtgneijdjlahgbaaGreat
