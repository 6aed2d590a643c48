/- A number within bounds, as a Bool. -/
import Derived.Test.YtkomooeohlcnaaaMem
namespace Go.Proofs.Ytkomooeohlcnaaa
set_option linter.unusedSimpArgs false
set_option linter.unusedVariables false
open Go.RowKit
/-- a number lies within bounds -/
def inB (n lo hi : Int) : Bool := decide (lo ≤ n) && decide (n ≤ hi)
theorem inB_iff {n lo hi : Int} : inB n lo hi = true ↔ lo ≤ n ∧ n ≤ hi := by simp [inB]
theorem inB_no {n lo hi : Int} : inB n lo hi = false ↔ ¬ (lo ≤ n ∧ n ≤ hi) := by rw [← inB_iff]; simp
theorem ret_bool {a b : Bool} (h : a = b) : Ending.returned (.bool a) = .returned (.bool b) := by rw [h]
theorem bne_of {a b : Int} (h : (a == b) = false) : (a != b) = true := by rw [bne, h]; rfl
theorem beq_of {a b : Int} (h : a ≠ b) : (a == b) = false := beq_eq_false_iff_ne.2 h
end Go.Proofs.Ytkomooeohlcnaaa
