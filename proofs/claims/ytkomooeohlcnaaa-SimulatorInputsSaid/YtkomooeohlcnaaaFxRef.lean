/- The reference of layer 1: Size, Product and Divide compute the absolute value, the product of two words, and the quotient of two words by one. -/
import Derived.Test.YtkomooeohlcnaaaFxDivAny
namespace Go.Proofs.Ytkomooeohlcnaaa
set_option linter.unusedSimpArgs false
set_option linter.unusedVariables false
open Go.RowKit

theorem ret_intR {k : IntKind} {a b : Int} (h : a = b) : Ending.returned (.int k a) = .returned (.int k b) := by rw [h]

theorem mulN (a b : Nat) : (a : Int) * (b : Int) = ((a * b : Nat) : Int) := (Int.natCast_mul a b).symm
theorem addN (a b : Nat) : (a : Int) + (b : Int) = ((a + b : Nat) : Int) := (Int.natCast_add a b).symm
theorem divN (a : Nat) : (a : Int) / 4294967296 = ((a / 4294967296 : Nat) : Int) := by omega
theorem shlN (a : Nat) : IntKind.u64.wrap ((a : Int) * 4294967296) = ((a % 4294967296 * 4294967296 : Nat) : Int) := by rw [wrapu]; omega
theorem or32 (a b : Nat) (ha : a < 4294967296) (hb : b < 4294967296) : bits .or .u64 ((a * 4294967296 : Nat) : Int) (b : Int) = ((a * 4294967296 + b : Nat) : Int) := by
  have h := orN a b 32 (by omega) hb
  exact h
theorem prod_lo (x y n l : Nat) (hn : n = x % 4294967296 * (y / 4294967296) + (x / 4294967296 * (y % 4294967296) + x % 4294967296 * (y % 4294967296) / 4294967296) % 4294967296) (hl : l = x % 4294967296 * (y % 4294967296)) :
    n % 4294967296 * 4294967296 + l % 4294967296 = x * y % 18446744073709551616 := by
  have e : x * y = (x / 4294967296) * (y / 4294967296) * (4294967296 * 4294967296) + ((x / 4294967296) * (y % 4294967296) + (x % 4294967296) * (y / 4294967296)) * 4294967296 + (x % 4294967296) * (y % 4294967296) := by
    have hx := split32 x
    have hy := split32 y
    generalize x / 4294967296 = x1 at *
    generalize x % 4294967296 = x0 at *
    generalize y / 4294967296 = y1 at *
    generalize y % 4294967296 = y0 at *
    rw [← hx, ← hy]
    generalize 4294967296 = B
    simp only [Nat.add_mul, Nat.mul_add, Nat.mul_assoc, Nat.mul_left_comm, Nat.mul_comm, Nat.add_assoc, Nat.add_left_comm, Nat.add_comm]
  rw [e, hn, hl]
  generalize x / 4294967296 * (y / 4294967296) = a at *
  generalize x / 4294967296 * (y % 4294967296) = b at *
  generalize x % 4294967296 * (y / 4294967296) = c at *
  generalize x % 4294967296 * (y % 4294967296) = d at *
  omega

/-- the relation of Divide's loop -/
def DRel (N c : Nat) (s0 s1 s6 s7 s8 s9 : Value) : Prop :=
  ∃ k h l r qh ql : Nat, s0 = .int .u64 h ∧ s1 = .int .u64 l ∧ s6 = .int .u64 qh ∧ s7 = .int .u64 ql ∧ s8 = .int .u64 r ∧ s9 = .int .i64 k ∧ k ≤ 128 ∧ Fx.DInv N c k h l r qh ql
theorem or1 (a b : Nat) (ha : a < 18446744073709551616) (hb : b < 18446744073709551616) : bits .or .u64 (IntKind.u64.wrap ((a : Int) * 2)) ((b : Int) / 9223372036854775808) = ((2 * a % 18446744073709551616 + b / 9223372036854775808 : Nat) : Int) := by
  have e1 : IntKind.u64.wrap ((a : Int) * 2) = ((a % 9223372036854775808 * 2 ^ 1 : Nat) : Int) := by rw [wrapu]; omega
  have e2 : (b : Int) / 9223372036854775808 = ((b / 9223372036854775808 : Nat) : Int) := by omega
  rw [e1, e2, orN _ _ 1 (by omega) (by omega)]
  omega
theorem shl1 (a : Nat) : IntKind.u64.wrap ((a : Int) * 2) = ((2 * a % 18446744073709551616 : Nat) : Int) := by rw [wrapu]; omega
theorem or_one (a : Nat) : bits .or .u64 ((2 * a % 18446744073709551616 : Nat) : Int) 1 = ((2 * a % 18446744073709551616 + 1 : Nat) : Int) := by
  have h := orN (a % 9223372036854775808) 1 1 (by omega) (by decide)
  have e : a % 9223372036854775808 * 2 ^ 1 = 2 * a % 18446744073709551616 := by omega
  rw [e] at h
  exact h

theorem or1' (a b : Nat) (ha : a < 9223372036854775808) (hb : b < 18446744073709551616) : bits .or .u64 ((a : Int) * 2) ((b : Int) / 9223372036854775808) = ((2 * a + b / 9223372036854775808 : Nat) : Int) := by
  have h := or1 a b (by omega) hb
  rw [show IntKind.u64.wrap ((a : Int) * 2) = (a : Int) * 2 from by rw [wrapu]; omega] at h
  rw [h]; omega
theorem d_yes {N c k h l r qh ql : Nat} {x : Int} (H : Fx.DInv N c k h l r qh ql) (hN : N < 18446744073709551616 * 18446744073709551616) (h3 : 0 < c) (h4 : c < 18446744073709551616) (hk : k < 128)
    (hle : c ≤ 2 * r + h / 9223372036854775808) (hx : x = ((2 * r + h / 9223372036854775808 - c : Nat) : Int)) :
    DRel N c (.int .u64 (bits .or .u64 (IntKind.u64.wrap (↑h * 2)) (↑l / 9223372036854775808))) (.int .u64 (IntKind.u64.wrap (↑l * 2))) (.int .u64 (bits .or .u64 (IntKind.u64.wrap (↑qh * 2)) (↑ql / 9223372036854775808)))
      (.int .u64 (bits .or .u64 (IntKind.u64.wrap (↑ql * 2)) 1)) (.int .u64 x) (.int .i64 (↑k + 1)) := by
  rw [or1 h l H.hh H.hl, shl1 l, or1 qh ql H.hqh H.hql, shl1 ql, or_one ql, hx]
  exact ⟨k + 1, _, _, _, _, _, rfl, rfl, rfl, rfl, rfl, rfl, by omega, (Fx.d_step hN h3 hk H).1 hle⟩
theorem d_no {N c k h l r qh ql : Nat} {x : Int} (H : Fx.DInv N c k h l r qh ql) (hN : N < 18446744073709551616 * 18446744073709551616) (h3 : 0 < c) (hk : k < 128)
    (hle : ¬ c ≤ 2 * r + h / 9223372036854775808) (hx : x = ((2 * r + h / 9223372036854775808 : Nat) : Int)) :
    DRel N c (.int .u64 (bits .or .u64 (IntKind.u64.wrap (↑h * 2)) (↑l / 9223372036854775808))) (.int .u64 (IntKind.u64.wrap (↑l * 2))) (.int .u64 (bits .or .u64 (IntKind.u64.wrap (↑qh * 2)) (↑ql / 9223372036854775808)))
      (.int .u64 (IntKind.u64.wrap (↑ql * 2))) (.int .u64 x) (.int .i64 (↑k + 1)) := by
  rw [or1 h l H.hh H.hl, shl1 l, or1 qh ql H.hqh H.hql, shl1 ql, hx]
  exact ⟨k + 1, _, _, _, _, _, rfl, rfl, rfl, rfl, rfl, rfl, by omega, (Fx.d_step hN h3 hk H).2 hle⟩

end Go.Proofs.Ytkomooeohlcnaaa
