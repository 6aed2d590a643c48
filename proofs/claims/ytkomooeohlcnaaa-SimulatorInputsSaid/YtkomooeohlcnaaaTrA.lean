/- Layer 7: sines and cosines, of the program and of the reference. -/
import Derived.Test.YtkomooeohlcnaaaTrPlain
import Derived.Test.YtkomooeohlcnaaaAng
namespace Go.Proofs.Ytkomooeohlcnaaa
set_option linter.unusedSimpArgs false
set_option linter.unusedVariables false
open Go.RowKit
open Tr
theorem shr31 (x : Int) : x >>> 31 = x / 2147483648 := by rw [Int.shiftRight_eq_div_pow]; rfl
set_option maxRecDepth 100000 in
set_option maxHeartbeats 2000000 in
theorem xTmul (x y : Int) (hx : 0 ≤ x ∧ x ≤ 2147483648) (hy : 0 ≤ y ∧ y ≤ 2147483648) (w : World) : Calls Try.prog 96 #[.int .i64 x, .int .i64 y] w fun e w' => e = .returned (.int .i64 (mul x y)) ∧ w = w' := by
  have hv := Lib.hid (show mul x y = (x * y + 1073741824) / 2147483648 from rfl)
  have p0 : 0 ≤ x * y := Int.mul_nonneg hx.1 hy.1
  have p1 : x * y ≤ 2147483648 * 2147483648 := Int.mul_le_mul hx.2 hy.2 hy.1 (by decide)
  have p2 : x * y ≤ 4611686018427387904 := by omega
  clear p1
  obtain ⟨X, hX⟩ : ∃ X, x * y = X := ⟨_, rfl⟩
  have HX := Lib.hid hX
  rw [hX] at p0 p2 hv
  have e1 : x * y = X := hX
  clear hx hy
  go_enter Try.func96, Try.ntmps96
  go_wp2
  go_ret
  exact ⟨ret_int (by rw [hv.out]), rfl⟩
set_option maxRecDepth 100000 in
set_option maxHeartbeats 2000000 in
theorem xTdiv (x n : Int) (hx : 0 ≤ x ∧ x ≤ 2147483648) (hn : 2 ≤ n ∧ n ≤ 200) (w : World) : Calls Try.prog 97 #[.int .i64 x, .int .i64 n] w fun e w' => e = .returned (.int .i64 ((x + n / 2) / n)) ∧ w = w' := by
  obtain ⟨x0, x1⟩ := hx
  obtain ⟨n0, n1⟩ := hn
  have hz : (n == 0) = false := beq_eq_false_iff_ne.2 (by omega)
  have hb := (half_le (m := x) (n := n) x0 n0)
  have q0 := hb.1
  have q1 := hb.2
  go_enter Try.func97, Try.ntmps97
  go_wp2
  go_ret
  exact ⟨rfl, rfl⟩
end Go.Proofs.Ytkomooeohlcnaaa
