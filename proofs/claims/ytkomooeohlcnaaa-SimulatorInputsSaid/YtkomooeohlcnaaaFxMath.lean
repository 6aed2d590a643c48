/- Plain arithmetic of layer 1: what a rounded quotient is, as an integer: the floor, the ceiling and the nearest integer of n / c. -/
import Derived.Test.YtkomooeohlcnaaaFxPlain
namespace Go.Proofs.Fx
set_option linter.unusedSimpArgs false
set_option linter.unusedVariables false

theorem ediv_of {x k D : Int} (hD : 0 < D) (h1 : k * D ≤ x) (h2 : x < k * D + D) : x / D = k := by
  have a : k ≤ x / D := (Int.le_ediv_iff_mul_le hD).2 h1
  have b : x / D < k + 1 := (Int.ediv_lt_iff_lt_mul hD).2 (by rw [Int.add_mul]; omega)
  omega

/-- n / c for a positive c: down, up, to the nearest -/
def rq (m : Nat) (n c : Int) : Int := if m = 0 then n / c else if m = 1 then -((-n) / c) else (2 * n + c) / (2 * c)
/-- n / c for any c that is not 0 -/
def rqz (m : Nat) (n c : Int) : Int := if c < 0 then rq m (-n) (-c) else rq m n c
def sval (m : Nat) (neg : Bool) (N D : Nat) : Int := if neg then -(mag m neg N D : Int) else (mag m neg N D : Int)

theorem sval_pos (m : Nat) (N D : Nat) (hD : 0 < D) : sval m false N D = rq m (N : Int) (D : Int) := by
  have hr := Nat.mod_lt N hD
  have hN := Nat.div_add_mod N D
  generalize hq : N / D = q at *
  generalize hrr : N % D = r at *
  have hNi : (N : Int) = q * D + r := by rw [← hN]; push_cast; rw [Int.mul_comm]
  have hDi : (0 : Int) < D := by omega
  unfold sval rq mag away
  rw [hq, hrr]
  simp only [Bool.false_eq_true, if_false, Bool.false_and, Bool.not_false, Bool.true_and]
  by_cases h0 : m = 0
  · simp only [h0, if_true, Bool.false_eq_true, if_false, Nat.add_zero]
    exact (ediv_of hDi (by omega) (by omega)).symm
  · by_cases h1 : m = 1
    · simp only [h1, if_true, show ¬ ((1 : Nat) = 0) from by omega, if_false]
      by_cases hz : 0 < r
      · have : (-(N : Int)) / D = -((q : Int) + 1) := ediv_of hDi (by rw [Int.neg_mul, Int.add_mul]; omega) (by rw [Int.neg_mul, Int.add_mul]; omega)
        rw [this]; simp [hz]
      · have : (-(N : Int)) / D = -(q : Int) := ediv_of hDi (by rw [Int.neg_mul]; omega) (by rw [Int.neg_mul]; omega)
        rw [this]; simp [hz]
    · simp only [h0, h1, if_false]
      have e2 : ∀ k : Int, k * (2 * (D : Int)) = 2 * (k * D) := fun k => by rw [← Int.mul_assoc, Int.mul_comm k 2, Int.mul_assoc]
      by_cases hz : D ≤ 2 * r
      · have : (2 * (N : Int) + D) / (2 * D) = (q : Int) + 1 := ediv_of (by omega) (by rw [e2, Int.add_mul]; omega) (by rw [e2, Int.add_mul]; omega)
        rw [this]
        have hb : (decide (D < 2 * r) || decide (2 * r = D)) = true := by
          rw [Bool.or_eq_true, decide_eq_true_iff, decide_eq_true_iff]; omega
        rw [hb]; simp
      · have : (2 * (N : Int) + D) / (2 * D) = (q : Int) := ediv_of (by omega) (by rw [e2]; omega) (by rw [e2]; omega)
        rw [this]
        have hb : (decide (D < 2 * r) || decide (2 * r = D)) = false := by
          rw [Bool.or_eq_false_iff, decide_eq_false_iff_not, decide_eq_false_iff_not]; omega
        rw [hb]; simp

theorem sval_neg (m : Nat) (N D : Nat) (hD : 0 < D) : sval m true N D = rq m (-(N : Int)) (D : Int) := by
  have hr := Nat.mod_lt N hD
  have hN := Nat.div_add_mod N D
  generalize hq : N / D = q at *
  generalize hrr : N % D = r at *
  have hNi : (N : Int) = q * D + r := by rw [← hN]; push_cast; rw [Int.mul_comm]
  have hDi : (0 : Int) < D := by omega
  unfold sval rq mag away
  rw [hq, hrr]
  simp only [if_true, Bool.true_and, Bool.not_true, Bool.false_and, Bool.or_false]
  by_cases h0 : m = 0
  · simp only [h0, if_true]
    by_cases hz : 0 < r
    · have : (-(N : Int)) / D = -((q : Int) + 1) := ediv_of hDi (by rw [Int.neg_mul, Int.add_mul]; omega) (by rw [Int.neg_mul, Int.add_mul]; omega)
      rw [this]; simp [hz]
    · have : (-(N : Int)) / D = -(q : Int) := ediv_of hDi (by rw [Int.neg_mul]; omega) (by rw [Int.neg_mul]; omega)
      rw [this]; simp [hz]
  · by_cases h1 : m = 1
    · simp only [h1, if_true, show ¬ ((1 : Nat) = 0) from by omega, if_false, Int.neg_neg, Bool.false_eq_true]
      have : (N : Int) / D = (q : Int) := ediv_of hDi (by omega) (by omega)
      rw [this]; simp
    · simp only [h0, h1, if_false]
      have e2 : ∀ k : Int, k * (2 * (D : Int)) = 2 * (k * D) := fun k => by rw [← Int.mul_assoc, Int.mul_comm k 2, Int.mul_assoc]
      by_cases hz : D < 2 * r
      · have : (2 * -(N : Int) + D) / (2 * D) = -((q : Int) + 1) := ediv_of (by omega) (by rw [e2, Int.neg_mul, Int.add_mul]; omega) (by rw [e2, Int.neg_mul, Int.add_mul]; omega)
        rw [this]; simp [hz]
      · have : (2 * -(N : Int) + D) / (2 * D) = -(q : Int) := ediv_of (by omega) (by rw [e2, Int.neg_mul]; omega) (by rw [e2, Int.neg_mul]; omega)
        rw [this]; simp [hz]

theorem natAbs_of_neg {a : Int} (h : a < 0) : (a.natAbs : Int) = -a := by omega
theorem natAbs_of_pos {a : Int} (h : ¬ a < 0) : (a.natAbs : Int) = a := by omega

theorem sval_eq (m : Nat) (a b c : Int) (hc : c ≠ 0) : sval m (negOf a b c) (a.natAbs * b.natAbs) c.natAbs = rqz m (a * b) c := by
  have hD : 0 < c.natAbs := by omega
  unfold rqz negOf
  by_cases ha : a < 0 <;> by_cases hb : b < 0 <;> by_cases hc' : c < 0 <;> simp only [ha, hb, hc', decide_true, decide_false, bne_self_eq_false, Bool.true_bne, Bool.false_bne, Bool.not_true, Bool.not_false, if_true, if_false] <;>
    first
    | (rw [sval_pos m _ _ hD, Int.natCast_mul]; simp only [natAbs_of_neg, natAbs_of_pos, ha, hb, hc', not_false_eq_true, Int.neg_mul, Int.mul_neg, Int.neg_neg])
    | (rw [sval_neg m _ _ hD, Int.natCast_mul]; simp only [natAbs_of_neg, natAbs_of_pos, ha, hb, hc', not_false_eq_true, Int.neg_mul, Int.mul_neg, Int.neg_neg])

def inR (x : Int) : Prop := -9223372036854775808 ≤ x ∧ x ≤ 9223372036854775807
instance (x : Int) : Decidable (inR x) := by unfold inR; infer_instance

theorem scV_eq (m : Nat) (a b c : Int) (hc : c ≠ 0) : scV m a b c = if inR (rqz m (a * b) c) then rqz m (a * b) c else 0 := by
  rw [← sval_eq m a b c hc]
  unfold scV sgV sval inR
  rw [if_neg hc]
  cases negOf a b c <;> simp only [if_true, Bool.false_eq_true, if_false] <;> split <;> split <;> omega

theorem scE_eq (m : Nat) (a b c : Int) (hc : c ≠ 0) : scE m a b c = if inR (rqz m (a * b) c) then 0 else 2 := by
  rw [← sval_eq m a b c hc]
  unfold scE sgE sval inR
  rw [if_neg hc]
  cases negOf a b c <;> simp only [if_true, Bool.false_eq_true, if_false] <;> split <;> split <;> omega

theorem scV_zero (m : Nat) (a b : Int) : scV m a b 0 = 0 := by simp [scV]
theorem scE_zero (m : Nat) (a b : Int) : scE m a b 0 = 1 := by simp [scE]
theorem scE_vals (m : Nat) (a b c : Int) : scE m a b c = 0 ∨ scE m a b c = 1 ∨ scE m a b c = 2 := by
  by_cases hc : c = 0
  · subst hc; simp [scE]
  · rw [scE_eq m a b c hc]; split <;> simp
theorem scV_err (m : Nat) (a b c : Int) (h : scE m a b c ≠ 0) : scV m a b c = 0 := by
  by_cases hc : c = 0
  · subst hc; simp [scV]
  · rw [scE_eq m a b c hc] at h; rw [scV_eq m a b c hc]
    by_cases hr : inR (rqz m (a * b) c)
    · rw [if_pos hr] at h; exact absurd rfl h
    · rw [if_neg hr]
theorem scV_inR (m : Nat) (a b c : Int) : inR (scV m a b c) := by
  by_cases hc : c = 0
  · subst hc; rw [scV_zero]; unfold inR; omega
  · rw [scV_eq m a b c hc]
    by_cases hr : inR (rqz m (a * b) c)
    · rw [if_pos hr]; exact hr
    · rw [if_neg hr]; unfold inR; omega

end Go.Proofs.Fx
