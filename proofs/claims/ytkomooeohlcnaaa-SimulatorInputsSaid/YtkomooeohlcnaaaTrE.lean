/- Layer 7: the angle of a vector, of the reference. -/
import Derived.Test.YtkomooeohlcnaaaTrD
namespace Go.Proofs.Ytkomooeohlcnaaa
set_option linter.unusedSimpArgs false
set_option linter.unusedVariables false
open Go.RowKit
open Tr
theorem absV_pos {b : Int} (h : 0 ≤ b) : absV b = b := by unfold absV; omega
theorem absV_neg {b : Int} (h : 0 ≤ b) : absV (-b) = b := by unfold absV; omega
def BiRel (m n : Int) (u v : Value) : Prop := ∃ c a : Int, u = .int .i64 c ∧ v = .int .i64 a ∧ 0 ≤ c ∧ c < a ∧ a ≤ 16200001 ∧ (c = 0 ∨ okA m n c = true) ∧ (a = 16200001 ∨ okA m n a = false)
end Go.Proofs.Ytkomooeohlcnaaa
