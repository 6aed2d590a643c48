/- Layer 1: the square root of the reference. -/
import Derived.Test.YtkomooeohlcnaaaFxRoot
namespace Go.Proofs.Ytkomooeohlcnaaa
set_option linter.unusedSimpArgs false
set_option linter.unusedVariables false
open Go.RowKit

def BRootRel (n : Nat) (v b : Value) : Prop := ∃ x y : Nat, v = .int .u64 x ∧ b = .int .u64 y ∧ Fx.BitInv n x y
theorem sq_cast (x y : Nat) : ((x : Int) + y) * ((x : Int) + y) = (((x + y) * (x + y) : Nat) : Int) := by push_cast; rfl
theorem sq_le {x y n : Nat} (h : ((x : Int) + y) * ((x : Int) + y) ≤ n) : (x + y) * (x + y) ≤ n := by rw [sq_cast] at h; omega
theorem le_sq {x y n : Nat} (h : (x + y) * (x + y) ≤ n) : ((x : Int) + y) * ((x : Int) + y) ≤ n := by rw [sq_cast]; omega
theorem sq64 {x : Nat} (h : x ≤ 4294967295) : x * x ≤ 18446744065119617025 := Nat.mul_le_mul h h
end Go.Proofs.Ytkomooeohlcnaaa
