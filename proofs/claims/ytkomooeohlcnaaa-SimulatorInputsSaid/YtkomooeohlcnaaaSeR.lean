/- Layer 59: Sense of the reference. -/
import Derived.Test.YtkomooeohlcnaaaSe
import Derived.Test.YtkomooeohlcnaaaAgR
namespace Go.Proofs.Ytkomooeohlcnaaa
set_option linter.unusedSimpArgs false
set_option linter.unusedVariables false
open Go.RowKit
theorem bit_u16r {x : Int} {k : Nat} (h0 : 0 ≤ x) (h1 : x < 65536) (hk : k < 16) : (bits .and .u16 (x / 2 ^ k) 1 == 1) = silB x k := by
  have ha : 0 ≤ x / 2 ^ k := Int.ediv_nonneg h0 (Int.pow_nonneg (by decide))
  have hb : x / 2 ^ k ≤ x := Int.ediv_le_self _ h0
  rw [u16_and _ _ ha (by omega) (by decide) (by decide)]
  unfold silB
  generalize x / 2 ^ k = y at *
  rw [show (y.toNat &&& (1 : Int).toNat : Nat) = y.toNat % 2 from Nat.and_one_is_mod _, Bool.eq_iff_iff, beq_iff_eq, decide_eq_true_eq]
  omega
end Go.Proofs.Ytkomooeohlcnaaa
