/- Plain laws of layer 1's statements: what rounded quotients are at the arguments of the statements. -/
import Derived.Test.YthhegchfmobkaaaFxMath
namespace Go.Proofs.Fx
set_option linter.unusedSimpArgs false
set_option linter.unusedVariables false

theorem rq_cancel (m : Nat) (a c : Int) (hc : 0 < c) : rq m (a * c) c = a := by
  unfold rq
  by_cases h0 : m = 0
  · simp only [h0, if_true]; exact ediv_of hc (by omega) (by omega)
  · by_cases h1 : m = 1
    · simp only [h1, if_true, show ¬ ((1 : Nat) = 0) from by decide, if_false]
      rw [← Int.neg_mul, ediv_of (k := -a) hc (by omega) (by omega)]; omega
    · simp only [h0, h1, if_false]
      have e : a * (2 * c) = 2 * (a * c) := Int.mul_left_comm a 2 c
      exact ediv_of (by omega) (by omega) (by omega)
theorem rqz_cancel (m : Nat) (a c : Int) (hc : c ≠ 0) : rqz m (a * c) c = a := by
  unfold rqz
  by_cases h : c < 0
  · rw [if_pos h, ← Int.mul_neg]; exact rq_cancel m a (-c) (by omega)
  · rw [if_neg h]; exact rq_cancel m a c (by omega)
theorem cancel_v (m : Nat) (a c : Int) (hc : c ≠ 0) (ha : inR a) : scV m a c c = a ∧ scE m a c c = 0 := by
  rw [scV_eq m a c c hc, scE_eq m a c c hc, rqz_cancel m a c hc, if_pos ha, if_pos ha]; exact ⟨rfl, rfl⟩
theorem cancel_v' (m : Nat) (a c : Int) (hc : c ≠ 0) (ha : inR a) : scV m c a c = a ∧ scE m c a c = 0 := by
  rw [scV_eq m c a c hc, scE_eq m c a c hc, Int.mul_comm c a, rqz_cancel m a c hc, if_pos ha, if_pos ha]; exact ⟨rfl, rfl⟩

/-- the bounds of n / c -/
theorem ediv_bd {n c M : Int} (hc : 0 < c) (h1 : -M ≤ n) (h2 : n ≤ M) (hM : 0 ≤ M) : -M ≤ n / c ∧ n / c ≤ M := by
  have a := Int.ediv_mul_le n (show c ≠ 0 by omega)
  have b := Int.lt_ediv_add_one_mul_self n hc
  rw [Int.add_mul] at b
  constructor
  · rcases Int.lt_or_le (n / c) (-M) with h | h
    · exfalso
      have h4 : (n / c + 1) * c ≤ (-M) * c := Int.mul_le_mul_of_nonneg_right (by omega) (by omega)
      have h3 : (-M) * c ≤ (-M) * 1 := Int.mul_le_mul_of_nonpos_left (by omega) (by omega)
      rw [Int.add_mul] at h4
      omega
    · exact h
  · rcases Int.lt_or_le M (n / c) with h | h
    · exfalso
      have : (M + 1) * c ≤ (n / c) * c := Int.mul_le_mul_of_nonneg_right (by omega) (by omega)
      have h3 : (M + 1) * 1 ≤ (M + 1) * c := Int.mul_le_mul_of_nonneg_left (by omega) (by omega)
      omega
    · exact h
theorem rq_bd (m : Nat) {n c M : Int} (hc : 0 < c) (h1 : -M ≤ n) (h2 : n ≤ M) (hM : 0 ≤ M) : -(M + 1) ≤ rq m n c ∧ rq m n c ≤ M + 1 := by
  unfold rq
  by_cases h0 : m = 0
  · simp only [h0, if_true]; have := ediv_bd hc h1 h2 hM; omega
  · by_cases h3 : m = 1
    · simp only [h3, if_true, show ¬ ((1 : Nat) = 0) from by decide, if_false]
      have := ediv_bd (n := -n) hc (by omega) (by omega) hM; omega
    · simp only [h0, h3, if_false]
      have e : (2 * n + c) / (2 * c) = (2 * n + c) / c / 2 := by rw [Int.mul_comm 2 c, Int.ediv_ediv_of_nonneg (by omega)]
      have e2 : (2 * n + c) / c = (2 * n) / c + 1 := by rw [Int.add_ediv_of_dvd_right (Int.dvd_refl c), Int.ediv_self (by omega)]
      have := ediv_bd (n := 2 * n) (M := 2 * M) hc (by omega) (by omega) (by omega)
      rw [e, e2]; omega
theorem rqz_bd (m : Nat) {n c M : Int} (hc : c ≠ 0) (h1 : -M ≤ n) (h2 : n ≤ M) (hM : 0 ≤ M) : -(M + 1) ≤ rqz m n c ∧ rqz m n c ≤ M + 1 := by
  unfold rqz
  by_cases h : c < 0
  · rw [if_pos h]; exact rq_bd m (by omega) (by omega) (by omega) hM
  · rw [if_neg h]; exact rq_bd m (by omega) h1 h2 hM
/-- a quotient of a number of at most 2^62 by any number has no error -/
theorem small_v (m : Nat) (a c : Int) (hc : c ≠ 0) (h1 : -6917529027641081856 ≤ a) (h2 : a ≤ 6917529027641081856) : scV m a 1 c = rqz m a c ∧ scE m a 1 c = 0 := by
  have b := rqz_bd m (n := a) (c := c) (M := 6917529027641081856) hc h1 h2 (by omega)
  have hr : inR (rqz m a c) := by unfold inR; omega
  rw [scV_eq m a 1 c hc, scE_eq m a 1 c hc, Int.mul_one, if_pos hr, if_pos hr]; exact ⟨rfl, rfl⟩
theorem near_down (a b : Int) (hb : b ≠ 0) : rqz 2 a b = rqz 0 (2 * a + b) (2 * b) := by
  unfold rqz
  by_cases h : b < 0
  · rw [if_pos h, if_pos (by omega)]
    simp only [rq, show ¬ ((2 : Nat) = 0) from by decide, show ¬ ((2 : Nat) = 1) from by decide, if_false, if_true]
    congr 1 <;> omega
  · rw [if_neg h, if_neg (by omega)]
    simp only [rq, show ¬ ((2 : Nat) = 0) from by decide, show ¬ ((2 : Nat) = 1) from by decide, if_false, if_true]
theorem up_down (a b : Int) (hb : b ≠ 0) : rqz 1 a b = -rqz 0 (-a) b := by
  unfold rqz
  by_cases h : b < 0
  · rw [if_pos h, if_pos h]
    simp only [rq, show ¬ ((1 : Nat) = 0) from by decide, if_false, if_true]
  · rw [if_neg h, if_neg h]
    simp only [rq, show ¬ ((1 : Nat) = 0) from by decide, if_false, if_true]

/-- rising in the dividend -/
theorem rq_mono (m : Nat) {n k c : Int} (hc : 0 < c) (h : n ≤ k) : rq m n c ≤ rq m k c := by
  unfold rq
  by_cases h0 : m = 0
  · simp only [h0, if_true]; exact Int.ediv_le_ediv hc h
  · by_cases h3 : m = 1
    · simp only [h3, if_true, show ¬ ((1 : Nat) = 0) from by decide, if_false]
      have := Int.ediv_le_ediv hc (show -k ≤ -n by omega); omega
    · simp only [h0, h3, if_false]
      exact Int.ediv_le_ediv (by omega) (by omega)
theorem rq_down_near {n c : Int} (hc : 0 < c) : rq 0 n c ≤ rq 2 n c := by
  simp only [rq, show ¬ ((2 : Nat) = 0) from by decide, show ¬ ((2 : Nat) = 1) from by decide, if_false, if_true]
  rw [Int.le_ediv_iff_mul_le (by omega)]
  have a := Int.ediv_mul_le n (show c ≠ 0 by omega)
  rw [← Int.mul_assoc, Int.mul_comm _ 2, Int.mul_assoc]
  omega
theorem scV_ok {m : Nat} {a b c : Int} (hc : 0 < c) (h : scE m a b c = 0) : scV m a b c = rq m (a * b) c := by
  have hz : c ≠ 0 := by omega
  have e : rqz m (a * b) c = rq m (a * b) c := by unfold rqz; rw [if_neg (by omega)]
  rw [scE_eq m a b c hz, e] at h
  rw [scV_eq m a b c hz, e]
  by_cases hr : inR (rq m (a * b) c)
  · rw [if_pos hr]
  · rw [if_neg hr] at h; omega
theorem scE_02 {m : Nat} {a b c : Int} (hc : 0 < c) : scE m a b c = 0 ∨ scE m a b c = 2 := by
  rw [scE_eq m a b c (by omega)]
  by_cases hr : inR (rqz m (a * b) c)
  · rw [if_pos hr]; exact .inl rfl
  · rw [if_neg hr]; exact .inr rfl
theorem order_v (m : Nat) {l h b c : Int} (hlh : l ≤ h) (hb : 0 ≤ b) (hc : 0 < c) (e : scE m l b c = 0) (f : scE m h b c = 0) : scV m l b c ≤ scV m h b c := by
  rw [scV_ok hc e, scV_ok hc f]
  exact rq_mono m hc (Int.mul_le_mul_of_nonneg_right hlh hb)
theorem order_dn {l b c : Int} (hc : 0 < c) (e : scE 0 l b c = 0) (g : scE 2 l b c = 0) : scV 0 l b c ≤ scV 2 l b c := by
  rw [scV_ok hc e, scV_ok hc g]
  exact rq_down_near hc

/-- what is left of a product -/
theorem rest_v {a b c : Int} (hc : 0 < c) : 0 ≤ a * b - rq 0 (a * b) c * c ∧ a * b - rq 0 (a * b) c * c < c ∧
    (a * b - rq 0 (a * b) c * c = 0 → rq 1 (a * b) c = rq 0 (a * b) c) ∧ (a * b - rq 0 (a * b) c * c ≠ 0 → rq 1 (a * b) c = rq 0 (a * b) c + 1) := by
  generalize a * b = n
  have h1 := Int.ediv_mul_le n (show c ≠ 0 by omega)
  have h2 := Int.lt_ediv_add_one_mul_self n hc
  rw [Int.add_mul] at h2
  simp only [rq, show ¬ ((1 : Nat) = 0) from by decide, if_false, if_true]
  generalize n / c = q at *
  refine ⟨by omega, by omega, fun h0 => ?_, fun h0 => ?_⟩
  · have : (-n) / c = -q := ediv_of hc (by rw [Int.neg_mul]; omega) (by rw [Int.neg_mul]; omega)
    omega
  · have : (-n) / c = -(q + 1) := ediv_of hc (by rw [Int.neg_mul, Int.add_mul]; omega) (by rw [Int.neg_mul, Int.add_mul]; omega)
    omega
end Go.Proofs.Fx
