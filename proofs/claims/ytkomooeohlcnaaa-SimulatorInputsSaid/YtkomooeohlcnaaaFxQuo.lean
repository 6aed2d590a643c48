/- The reference of layer 1: quotient computes what the plain words of FxPlain say. -/
import Derived.Test.YtkomooeohlcnaaaFxRef
import Derived.Deep.DeepCutAuto
import Derived.Laws.BitsAllLaws
namespace Go.Proofs.Ytkomooeohlcnaaa
set_option linter.unusedSimpArgs false
set_option linter.unusedVariables false
open Go.RowKit

theorem sg_out {Q : Nat} {neg : Bool} (h : 9223372036854775808 < Q) : Fx.sgV Q neg = 0 ∧ Fx.sgE Q neg = 2 := by
  cases neg
  · simp only [Fx.sgV, Fx.sgE, Bool.false_eq_true, if_false]
    rw [if_neg (by omega), if_neg (by omega)]; exact ⟨rfl, rfl⟩
  · simp only [Fx.sgV, Fx.sgE, if_true]
    rw [if_neg (by omega), if_neg (by omega)]; exact ⟨rfl, rfl⟩
theorem sg_pos {Q : Nat} (h : Q < 9223372036854775808) : Fx.sgV Q false = Q ∧ Fx.sgE Q false = 0 := by
  simp only [Fx.sgV, Fx.sgE, Bool.false_eq_true, if_false]
  rw [if_pos h, if_pos h]; exact ⟨rfl, rfl⟩
theorem sg_edge : Fx.sgV 9223372036854775808 false = 0 ∧ Fx.sgE 9223372036854775808 false = 2 := by
  simp only [Fx.sgV, Fx.sgE, Bool.false_eq_true, if_false]
  rw [if_neg (by decide), if_neg (by decide)]; exact ⟨rfl, rfl⟩
theorem sg_neg {Q : Nat} (h : Q ≤ 9223372036854775808) : Fx.sgV Q true = -(Q : Int) ∧ Fx.sgE Q true = 0 := by
  simp only [Fx.sgV, Fx.sgE, if_true]
  rw [if_pos h, if_pos h]; exact ⟨rfl, rfl⟩
theorem u64_not (a : Nat) (ha : a < 18446744073709551616) : bits .xor .u64 IntKind.u64.max (a : Int) = ((18446744073709551615 - a : Nat) : Int) := by
  have hm : IntKind.u64.max = ((18446744073709551615 : Nat) : Int) := rfl
  rw [hm, u64_xor_nat _ _ (by decide) ha]
  congr 1
  have h1 := BitVec.toNat_not (x := BitVec.ofNat 64 a)
  have h2 : (~~~(BitVec.ofNat 64 a)) = BitVec.allOnes 64 ^^^ BitVec.ofNat 64 a := (BitVec.allOnes_xor).symm
  rw [h2, BitVec.toNat_xor, BitVec.toNat_ofNat, BitVec.toNat_allOnes, Nat.mod_eq_of_lt (by simpa using ha)] at h1
  exact h1
theorem ret_tup2R {k l : IntKind} {a b c d : Int} (h : a = c) (h' : b = d) : Ending.returned (.tuple #[.int k a, .int l b]) = .returned (.tuple #[.int k c, .int l d]) := by rw [h, h']
theorem rhn_neg {a b c : Int} {neg : Bool} (hn : Fx.negOf a b c = neg) (hc : c < 0) : (!(decide (a < 0) == decide (b < 0))) = !neg := by
  subst hn; unfold Fx.negOf; rw [decide_eq_true hc]; cases decide (a < 0) <;> cases decide (b < 0) <;> rfl
theorem rhn_pos {a b c : Int} {neg : Bool} (hn : Fx.negOf a b c = neg) (hc : ¬ c < 0) : (!(decide (a < 0) == decide (b < 0))) = neg := by
  subst hn; unfold Fx.negOf; rw [decide_eq_false hc]; cases decide (a < 0) <;> cases decide (b < 0) <;> rfl

theorem quo_hi (N D : Nat) (hN : N < 18446744073709551616 * 9223372036854775808) : N / D / 18446744073709551616 < 9223372036854775808 := by
  have h := Nat.div_le_self N D
  rw [Nat.div_lt_iff_lt_mul (by decide), Nat.mul_comm]
  exact Nat.lt_of_le_of_lt h hN
theorem natAbs_le (a : Int) (h0 : -9223372036854775808 ≤ a) (h1 : a ≤ 9223372036854775807) : a.natAbs ≤ 9223372036854775808 := by omega
theorem prod_lt {A B : Nat} (hA : A ≤ 9223372036854775808) (hB : B ≤ 9223372036854775808) : A * B < 18446744073709551616 * 9223372036854775808 :=
  Nat.lt_of_le_of_lt (Nat.mul_le_mul hA hB) (by decide)
theorem split64' (N : Nat) : N / 18446744073709551616 * 18446744073709551616 + N % 18446744073709551616 = N := by omega

end Go.Proofs.Ytkomooeohlcnaaa
