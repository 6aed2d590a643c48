/- Layer 1: the square roots of package fixed. -/
import Derived.Test.YtkomooeohlcnaaaFxScale
import Derived.Test.YtkomooeohlcnaaaFxRootP
namespace Go.Proofs.Ytkomooeohlcnaaa
set_option linter.unusedSimpArgs false
set_option linter.unusedVariables false
open Go.RowKit

/-- the root of an integer; of none that is negative: 0 -/
def sqV (n : Int) : Int := (Fx.isq n.toNat : Int)

theorem len_any (n : Nat) (h0 : 0 < n) (h1 : n < 9223372036854775808) : ∃ k : Nat, 1 ≤ k ∧ k ≤ 63 ∧ n < 2 ^ k ∧
    ∀ w, Calls Try.prog 71 #[.int .u64 (n : Int)] w fun e w' => e = .returned (.int .i64 (k : Int)) ∧ w = w' := by
  obtain ⟨b1, b2, b3⟩ := Lib.bitLenAux_bounds 64 n (by omega) (by omega)
  have b0 : Lib.bitLenAux 64 n ≤ 63 := by
    rcases Nat.lt_or_ge 63 (Lib.bitLenAux 64 n) with h | h
    · exfalso
      have : 2 ^ 63 ≤ 2 ^ (Lib.bitLenAux 64 n - 1) := Nat.pow_le_pow_right (by omega) (by omega)
      omega
    · exact h
  refine ⟨_, b1, b0, b3, fun w => ?_⟩
  refine (Try.bits_Len64 (n : Int) w (by omega) (by omega)).mono ?_
  rintro e w' ⟨rfl, hw⟩
  refine ⟨?_, hw.symm⟩
  rw [Int.toNat_natCast]
  rfl

def SRel (n : Nat) (v : Value) : Prop := ∃ x : Nat, v = .int .i64 x ∧ 0 < x ∧ Fx.isq n ≤ x ∧ x ≤ 4294967296

theorem two_pow_le (k : Nat) (h : k ≤ 63) : 2 ^ ((k + 1) / 2) ≤ 4294967296 := by
  have : 2 ^ ((k + 1) / 2) ≤ 2 ^ 32 := Nat.pow_le_pow_right (by decide) (by omega)
  exact this

set_option maxRecDepth 100000 in
set_option maxHeartbeats 1000000 in
theorem sqrt_pos (n k X : Nat) (h0 : (0 : Int) < n) (h1 : (n : Int) ≤ 9223372036854775807) (hk : k ≤ 63) (w : World) (hX : X ≤ 4294967296) (hX0 : 0 < X) (hX1 : Fx.isq n ≤ X)
    (eX : (2 : Int) ^ ((k + 1) / 2) = X)
    (hL : ∀ w, Calls Try.prog 71 #[.int .u64 (n : Int)] w fun e w' => e = .returned (.int .i64 (k : Int)) ∧ w = w') :
    Calls Try.prog 41 #[.int .i64 n] w fun e w' => e = .returned (.int .i64 (Fx.isq n : Int)) ∧ w = w' := by
  have HL := Lib.hid hL
  have HX := Lib.hid (show SRel n (.int .i64 (wrap64 ((2 : Int) ^ ((k + 1) / 2)))) from ⟨X, by rw [eX, IntWalk.wrap64_in _ (by omega)], hX0, hX1, hX⟩)
  clear hL eX
  go_enter Try.func41, Try.ntmps41
  go_wp2_with (go_at_call 71; refine (HL.out _).mono ?_; rintro e w' ⟨rfl, rfl⟩)
  go_loop [3] (fun v => SRel n v) (fun v => (intOf v).toNat)
  case atStart => exact HX.out
  case round =>
    obtain ⟨x, rfl, x0, x1, x2⟩ := hrel
    have hb := Fx.newton_bound x0 x1
    have hge := Lib.hid (Fx.newton_ge (n := n) x0)
    have hst := Lib.hid (Fx.newton_stop (n := n) x0 x1)
    have hz : ((x : Int) == 0) = false := beq_eq_false_iff_ne.2 (by omega)
    obtain ⟨t, ht⟩ : ∃ t, n / x = t := ⟨_, rfl⟩
    have eT : (n : Int) / (x : Int) = (t : Int) := by rw [← ht]; simp
    rw [ht] at hb hge hst
    have HI := Lib.hid x1
    clear ht x1
    have hpos : 0 < (x + t) / 2 := Nat.lt_of_lt_of_le (Fx.isq_pos (by omega)) hge.out
    by_cases hc : (x : Int) ≤ ((x : Int) + t) / 2
    · have he := Lib.hid (hst.out (by omega))
      go_wp2_with fail
      go_ret
      exact ⟨ret_int (by rw [← he.out]), rfl⟩
    · go_wp2_with fail
      go_round
      case rel => exact ⟨(x + t) / 2, by congr 1, hpos, hge.out, by omega⟩
      case measure => simp only [intOf]; omega

/-- Sqrt -/
theorem xSqrt (n : Int) (h1 : n ≤ 9223372036854775807) (w : World) :
    Calls Try.prog 41 #[.int .i64 n] w fun e w' => e = .returned (.int .i64 (sqV n)) ∧ w = w' := by
  by_cases h0 : n ≤ 0
  · have h2 : n.toNat = 0 := by omega
    have hv := Lib.hid (show sqV n = 0 by unfold sqV; rw [h2]; rfl)
    clear h2
    go_enter Try.func41, Try.ntmps41
    go_wp2
    go_ret
    exact ⟨ret_int (by rw [hv.out]), rfl⟩
  · obtain ⟨m, rfl⟩ : ∃ m : Nat, n = m := ⟨n.toNat, by omega⟩
    obtain ⟨k, k1, k2, k3, hL⟩ := len_any m (by omega) (by omega)
    have e : sqV (m : Int) = (Fx.isq m : Int) := by unfold sqV; rw [Int.toNat_natCast]
    rw [e]
    exact sqrt_pos m k (2 ^ ((k + 1) / 2)) (by omega) (by omega) k2 w (two_pow_le k k2) (Nat.two_pow_pos _) (Fx.newton_start k3) (by simp) hL

/-- the root rounded up -/
def squV (n : Int) : Int := if 0 < n ∧ sqV n * sqV n < n then sqV n + 1 else sqV n
theorem sqV_bd (n : Int) (h1 : n ≤ 9223372036854775807) : 0 ≤ sqV n ∧ sqV n ≤ 3037000499 ∧ sqV n * sqV n ≤ 9223372036854775807 := by
  have h := (Fx.isq_spec n.toNat).1
  have hn : n.toNat ≤ 9223372036854775807 := by omega
  unfold sqV
  generalize Fx.isq n.toNat = r at *
  have hr : r ≤ 3037000499 := by
    rcases Nat.lt_or_ge 3037000499 r with h' | h'
    · exfalso
      have := Nat.mul_le_mul (show 3037000500 ≤ r from h') (show 3037000500 ≤ r from h')
      omega
    · exact h'
  refine ⟨by omega, by omega, ?_⟩
  rw [← Int.natCast_mul]; omega
end Go.Proofs.Ytkomooeohlcnaaa
