/- Passages of a prediction: their cells. -/
import Derived.Test.YtcmdpfdhmbpahaaMem
namespace Go.Proofs.Ytcmdpfdhmbpahaa
set_option linter.unusedSimpArgs false
set_option linter.unusedVariables false
open Go.RowKit

structure Pass where
  alt : Int
  cas : Int
  tas : Int
  ground : Int
  tick : Int
  fuel : Int
  gl : Int
  gh : Int
  tl : Int
  th : Int
  fl : Int
  fh : Int
  phase : Int
def Pass.cells (p : Pass) : List Value := [.int .i64 p.alt, .int .i64 p.cas, .int .i64 p.tas, .int .i64 p.ground, .int .i64 p.tick, .int .i64 p.fuel, .int .i64 p.gl, .int .i64 p.gh, .int .i64 p.tl, .int .i64 p.th, .int .i64 p.fl, .int .i64 p.fh, .int .u8 p.phase]
def Passes (w : World) (A : Option Addr) (n : Nat) (ps : List Pass) : Prop := Recs Pass.cells 13 w A n ps
theorem Passes.below {w w' : World} {A : Option Addr} {n : Nat} {ps : List Pass} (h : Passes w A n ps) (hb : Below w.heap.size w w') : Passes w' A n ps := Recs.below h hb

end Go.Proofs.Ytcmdpfdhmbpahaa
