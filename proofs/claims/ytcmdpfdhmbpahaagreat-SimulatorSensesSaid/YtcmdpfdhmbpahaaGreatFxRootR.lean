/- Layer 1: the square root of the reference. -/
import Derived.Test.YtcmdpfdhmbpahaaGreatFxRoot
namespace Go.Proofs.YtcmdpfdhmbpahaaGreat
set_option linter.unusedSimpArgs false
set_option linter.unusedVariables false
open Go.RowKit

def BRel (n : Nat) (v b : Value) : Prop := ∃ x y : Nat, v = .int .u64 x ∧ b = .int .u64 y ∧ Fx.BitInv n x y
theorem sq_cast (x y : Nat) : ((x : Int) + y) * ((x : Int) + y) = (((x + y) * (x + y) : Nat) : Int) := by push_cast; rfl
theorem sq_le {x y n : Nat} (h : ((x : Int) + y) * ((x : Int) + y) ≤ n) : (x + y) * (x + y) ≤ n := by rw [sq_cast] at h; omega
theorem le_sq {x y n : Nat} (h : (x + y) * (x + y) ≤ n) : ((x : Int) + y) * ((x : Int) + y) ≤ n := by rw [sq_cast]; omega
theorem sq64 {x : Nat} (h : x ≤ 4294967295) : x * x ≤ 18446744065119617025 := Nat.mul_le_mul h h
set_option maxRecDepth 100000 in
set_option maxHeartbeats 1000000 in
theorem rsqrt_pos (n : Nat) (h1 : (n : Int) ≤ 9223372036854775807) (w : World) :
    Calls Tryz.prog 117 #[.int .i64 n] w fun e w' => e = .returned (.int .i64 (Fx.isq n : Int)) ∧ w = w' := by
  have hst := Lib.hid (Fx.bit_start (n := n) (by omega))
  go_enter Tryz.func117, Tryz.ntmps117
  go_wp2
  go_loop [3, 4] (fun v b => BRel n v b) (fun _ b => (intOf b).toNat)
  case atStart => exact ⟨0, 2147483648, rfl, rfl, hst.out⟩
  case round =>
    obtain ⟨x, y, rfl, rfl, H⟩ := hrel
    have hb := H.bd
    have bd1 : (x : Int) + 2 * y ≤ 4294967296 := by omega
    have HH := Lib.hid H
    clear H hb
    by_cases hy : 0 < (y : Int)
    · have hm := sq64 (x := x + y) (by omega)
      have m1 : ((x : Int) + y) * ((x : Int) + y) ≤ 18446744073709551615 := by
        have : ((x : Int) + y) * ((x : Int) + y) = (((x + y) * (x + y) : Nat) : Int) := by push_cast; rfl
        omega
      have m0 : 0 ≤ ((x : Int) + y) * ((x : Int) + y) := Int.mul_nonneg (by omega) (by omega)
      clear hm
      by_cases hc : ((x : Int) + y) * ((x : Int) + y) ≤ n
      · go_wp2_with fail
        go_round
        case rel => exact ⟨x + y, y / 2, by congr 1, by congr 1, Fx.bit_yes (by omega) HH.out (sq_le hc)⟩
        case measure => simp only [intOf]; omega
      · go_wp2_with fail
        go_round
        case rel => exact ⟨x, y / 2, rfl, by congr 1, Fx.bit_no (by omega) HH.out (fun h => hc (le_sq h))⟩
        case measure => simp only [intOf]; omega
    · have hz : y = 0 := by omega
      have he := Lib.hid (Fx.bit_end (by rw [← hz]; exact HH.out))
      have hx : (x : Int) ≤ 4294967296 := by omega
      clear hz
      go_wp2_with fail
      go_ret
      exact ⟨ret_int (by rw [← he.out]), rfl⟩
theorem rSqrt (n : Int) (h1 : n ≤ 9223372036854775807) (w : World) :
    Calls Tryz.prog 117 #[.int .i64 n] w fun e w' => e = .returned (.int .i64 (sqV n)) ∧ w = w' := by
  by_cases h0 : n < 0
  · have h2 : n.toNat = 0 := by omega
    have hv := Lib.hid (show sqV n = 0 by unfold sqV; rw [h2]; rfl)
    clear h2
    go_enter Tryz.func117, Tryz.ntmps117
    go_wp2
    go_ret
    exact ⟨ret_int (by rw [hv.out]), rfl⟩
  · obtain ⟨m, rfl⟩ : ∃ m : Nat, n = m := ⟨n.toNat, by omega⟩
    have e : sqV (m : Int) = (Fx.isq m : Int) := by unfold sqV; rw [Int.toNat_natCast]
    rw [e]
    exact rsqrt_pos m h1 w
end Go.Proofs.YtcmdpfdhmbpahaaGreat
