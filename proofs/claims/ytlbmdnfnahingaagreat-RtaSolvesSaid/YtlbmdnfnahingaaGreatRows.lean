/-
  No cell of these rows narrows 'for every input' (looked for: loops, veiled, ifaces, maps, wideKeys, modest, calm, conditions, laid).
  DERIVED. THE GIVEN ROWS OF THIS SEAT. 3 by the template 'for every input the law returns true; each argument reads behind the call as it read before'; 0 by the template 'total and deterministic' (their statements: YtlbmdnfnahingaaGreatTotals.lean).
  GIVEN WITH THE SEED: the statements are not yours to turn. If you find one false, say at which input.
  Laid BY PROGRAM, IN A SANDBOX (cutbox-rows.mjs): the forced cells as the released guide's own fill.sh prints them over the translation b40b5ddcbfe82d2e… (all of the seat's roots in one cut). By AI agents, Wed Nov 11 2026. No macro, syntax, notation, axiom, sorry.
-/
import Derived.Test.YtlbmdnfnahingaaGreatChecked
import GoSem.Claim
import GoSem.ClaimJoined
import GoSem.ClaimMapViews
import Derived.JoinedTies
import Derived.KernelRfl
namespace Go.Proofs.YtlbmdnfnahingaaGreat
/- THE CELL 'sum', in the pinned program and in every row, IS THE sha256 OF THE DUMP (.gsa) THAT YtlbmdnfnahingaaGreatProg.lean LOADS. Nothing in Lean hashes anything: it is a label: what it is worth is what the hold of that sum in a sandbox is worth. -/
noncomputable def Tryz.pinned : Pinned := { name := "ytlbmdnfnahingaagreat", sum := "b40b5ddcbfe82d2e40330946177e97af603d4d9e8ca06b260c30003397542187", checked := Tryz.checked }
namespace Rows
def none {H : Type} : Left H := { results := [], args := [] }

/-- 'flightdecklaw37.PredictFlies': WHATEVER THE INPUT: true; the input reads as it did. -/
def predictFliesSpec : ChangeSpec := { name := "predictFlies", fn := fun _ => fun
  | [d1, d2, d3] => { results := [.lit (.bool true)], args := [d1, d2, d3] }
  | _ => none }
def predictFliesRow : OpenClaim := { program := "ytlbmdnfnahingaagreat", sum := "b40b5ddcbfe82d2e40330946177e97af603d4d9e8ca06b260c30003397542187", func := "flightdeck/flightdecklaw37.PredictFlies", spec := "predictFlies", unfollowed := true, recurses := true, named := ["math/bits.divideError", "math/bits.overflowError"], apart := false }
def PredictFliesSaid : Prop := predictFliesRow.holds Tryz.pinned (OpenSpec.ofChange predictFliesSpec)

/-- ITS FALSE NEIGHBOUR: 'it returns false'. Refute it at one input. -/
def predictFliesWrong : ChangeSpec := { name := "predictFlies", fn := fun _ => fun
  | [d1, d2, d3] => { results := [.lit (.bool false)], args := [d1, d2, d3] }
  | _ => none }
def PredictFliesWrongFalsely : Prop := predictFliesRow.holds Tryz.pinned (OpenSpec.ofChange predictFliesWrong)

/-- 'flightdecklaw38.RtaWindow': WHATEVER THE INPUT: true; the input reads as it did. -/
def rtaWindowSpec : ChangeSpec := { name := "rtaWindow", fn := fun _ => fun
  | [d1, d2] => { results := [.lit (.bool true)], args := [d1, d2] }
  | _ => none }
def rtaWindowRow : OpenClaim := { program := "ytlbmdnfnahingaagreat", sum := "b40b5ddcbfe82d2e40330946177e97af603d4d9e8ca06b260c30003397542187", func := "flightdeck/flightdecklaw38.RtaWindow", spec := "rtaWindow", unfollowed := true, recurses := true, named := ["math/bits.divideError", "math/bits.overflowError"], apart := false }
def RtaWindowSaid : Prop := rtaWindowRow.holds Tryz.pinned (OpenSpec.ofChange rtaWindowSpec)

/-- ITS FALSE NEIGHBOUR: 'it returns false'. Refute it at one input. -/
def rtaWindowWrong : ChangeSpec := { name := "rtaWindow", fn := fun _ => fun
  | [d1, d2] => { results := [.lit (.bool false)], args := [d1, d2] }
  | _ => none }
def RtaWindowWrongFalsely : Prop := rtaWindowRow.holds Tryz.pinned (OpenSpec.ofChange rtaWindowWrong)

/-- 'flightdecklaw38.RtaSolves': WHATEVER THE INPUT: true; the input reads as it did. -/
def rtaSolvesSpec : ChangeSpec := { name := "rtaSolves", fn := fun _ => fun
  | [d1, d2, d3] => { results := [.lit (.bool true)], args := [d1, d2, d3] }
  | _ => none }
def rtaSolvesRow : OpenClaim := { program := "ytlbmdnfnahingaagreat", sum := "b40b5ddcbfe82d2e40330946177e97af603d4d9e8ca06b260c30003397542187", func := "flightdeck/flightdecklaw38.RtaSolves", spec := "rtaSolves", unfollowed := true, recurses := true, named := ["math/bits.divideError", "math/bits.overflowError"], apart := false }
def RtaSolvesSaid : Prop := rtaSolvesRow.holds Tryz.pinned (OpenSpec.ofChange rtaSolvesSpec)

/-- ITS FALSE NEIGHBOUR: 'it returns false'. Refute it at one input. -/
def rtaSolvesWrong : ChangeSpec := { name := "rtaSolves", fn := fun _ => fun
  | [d1, d2, d3] => { results := [.lit (.bool false)], args := [d1, d2, d3] }
  | _ => none }
def RtaSolvesWrongFalsely : Prop := rtaSolvesRow.holds Tryz.pinned (OpenSpec.ofChange rtaSolvesWrong)

/- THE SECOND FORM. 'bulk': how many values and letters a reading holds, each counted each time it is reached (what is shared counts as often as it is met; a slice's spare places count too). A statement '..UptoSaid' is the law's where the arguments, and the package variables that the reading takes, are together of bulk at most 1048576: NARROWER than '..Said'. Prove '..Said' where nothing that the law and all that it calls make is longer than what came in: it says more and counts as full. Else prove '..UptoSaid'. A law counts once. -/
mutual
def uptoBulk {H : Type} : DataW H → Nat
  | .lit (.string bytes) => bytes.length + 1
  | .lit _ => 1
  | .nil => 1
  | .ptr d => uptoBulk d + 1
  | .slice elems spare => uptoBulkAll elems + uptoBulkAll spare + 1
  | .agg parts => uptoBulkAll parts + 1
  | .iface _ d => uptoBulk d + 1
  | .map entries => uptoBulkEntries entries + 1
  | .held _ => 1
def uptoBulkAll {H : Type} : List (DataW H) → Nat
  | [] => 0
  | d :: r => uptoBulk d + uptoBulkAll r
def uptoBulkEntries {H : Type} : List (Lit × DataW H) → Nat
  | [] => 0
  | x :: r => uptoBulkEntry x + uptoBulkEntries r
def uptoBulkEntry {H : Type} : Lit × DataW H → Nat
  | (.string bytes, d) => bytes.length + uptoBulk d + 1
  | (_, d) => uptoBulk d + 1
 end
def uptoSmall : (H : Type) → List (DataW H) → Bool := fun _ ds => decide (uptoBulkAll ds ≤ 1048576)
def OpenSpec.upto (s : _root_.Go.ChangeSpec) : _root_.Go.OpenSpec := { _root_.Go.OpenSpec.ofChange s with cond := some uptoSmall }

/-- 'flightdecklaw37.PredictFlies', WHERE WHAT IT READS IS OF BULK AT MOST 1048576: true; the input reads as it did. -/
def predictFliesUptoRow : OpenClaim := { program := "ytlbmdnfnahingaagreat", sum := "b40b5ddcbfe82d2e40330946177e97af603d4d9e8ca06b260c30003397542187", func := "flightdeck/flightdecklaw37.PredictFlies", spec := "predictFlies", unfollowed := true, recurses := true, named := ["math/bits.divideError", "math/bits.overflowError"], apart := false, narrowed := true }
def PredictFliesUptoSaid : Prop := predictFliesUptoRow.holds Tryz.pinned (OpenSpec.upto predictFliesSpec)

/-- 'flightdecklaw38.RtaWindow', WHERE WHAT IT READS IS OF BULK AT MOST 1048576: true; the input reads as it did. -/
def rtaWindowUptoRow : OpenClaim := { program := "ytlbmdnfnahingaagreat", sum := "b40b5ddcbfe82d2e40330946177e97af603d4d9e8ca06b260c30003397542187", func := "flightdeck/flightdecklaw38.RtaWindow", spec := "rtaWindow", unfollowed := true, recurses := true, named := ["math/bits.divideError", "math/bits.overflowError"], apart := false, narrowed := true }
def RtaWindowUptoSaid : Prop := rtaWindowUptoRow.holds Tryz.pinned (OpenSpec.upto rtaWindowSpec)

/-- 'flightdecklaw38.RtaSolves', WHERE WHAT IT READS IS OF BULK AT MOST 1048576: true; the input reads as it did. -/
def rtaSolvesUptoRow : OpenClaim := { program := "ytlbmdnfnahingaagreat", sum := "b40b5ddcbfe82d2e40330946177e97af603d4d9e8ca06b260c30003397542187", func := "flightdeck/flightdecklaw38.RtaSolves", spec := "rtaSolves", unfollowed := true, recurses := true, named := ["math/bits.divideError", "math/bits.overflowError"], apart := false, narrowed := true }
def RtaSolvesUptoSaid : Prop := rtaSolvesUptoRow.holds Tryz.pinned (OpenSpec.upto rtaSolvesSpec)

end Rows
end Go.Proofs.YtlbmdnfnahingaaGreat
