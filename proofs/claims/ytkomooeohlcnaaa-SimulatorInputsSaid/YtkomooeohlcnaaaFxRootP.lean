/- Plain arithmetic of roots (no program in sight). -/
namespace Go.Proofs.Fx
set_option linter.unusedSimpArgs false
set_option linter.unusedVariables false

/-- the square root, rounded down -/
def isq : Nat → Nat
  | 0 => 0
  | n + 1 => if (isq n + 1) * (isq n + 1) ≤ n + 1 then isq n + 1 else isq n
theorem isq_spec (n : Nat) : isq n * isq n ≤ n ∧ n < (isq n + 1) * (isq n + 1) := by
  induction n with
  | zero => exact ⟨by decide, by decide⟩
  | succ n ih =>
    obtain ⟨h1, h2⟩ := ih
    unfold isq
    split
    · rename_i h
      refine ⟨h, ?_⟩
      have : (isq n + 1 + 1) * (isq n + 1 + 1) = (isq n + 1) * (isq n + 1) + (isq n + 1) + (isq n + 1) + 1 := by
        rw [Nat.add_mul, Nat.mul_add]; omega
      omega
    · rename_i h
      exact ⟨by omega, by omega⟩
theorem isq_eq {n r : Nat} (h1 : r * r ≤ n) (h2 : n < (r + 1) * (r + 1)) : r = isq n := by
  obtain ⟨a, b⟩ := isq_spec n
  rcases Nat.lt_trichotomy r (isq n) with h | h | h
  · exfalso
    have := Nat.mul_le_mul (show r + 1 ≤ isq n from h) (show r + 1 ≤ isq n from h)
    omega
  · exact h
  · exfalso
    have := Nat.mul_le_mul (show isq n + 1 ≤ r from h) (show isq n + 1 ≤ r from h)
    omega
theorem le_isq {n r : Nat} (h : r * r ≤ n) : r ≤ isq n := by
  obtain ⟨a, b⟩ := isq_spec n
  rcases Nat.lt_or_ge (isq n) r with h' | h'
  · exfalso
    have := Nat.mul_le_mul (show isq n + 1 ≤ r from h') (show isq n + 1 ≤ r from h')
    omega
  · exact h'
theorem isq_mono {a b : Nat} (h : a ≤ b) : isq a ≤ isq b := le_isq (Nat.le_trans (isq_spec a).1 h)
theorem isq_pos {n : Nat} (h : 0 < n) : 0 < isq n := le_isq (r := 1) h
theorem isq_le_self (n : Nat) : isq n ≤ n := by
  have := (isq_spec n).1
  have h2 : isq n ≤ isq n * isq n := Nat.le_mul_self _
  omega

/-- Newton's step never falls below the root -/
theorem newton_ge {n x : Nat} (hx : 0 < x) : isq n ≤ (x + n / x) / 2 := by
  obtain ⟨h1, h2⟩ := isq_spec n
  generalize isq n = s at *
  have key : 2 * s ≤ x + n / x := by
    rcases Nat.lt_or_ge (2 * s) x with h | h
    · exact Nat.le_trans (Nat.le_of_lt h) (Nat.le_add_right _ _)
    · obtain ⟨d, hd⟩ : ∃ d, 2 * s = x + d := ⟨2 * s - x, by omega⟩
      have hdx : d * x ≤ s * s := by
        rcases Nat.le_total s x with hsx | hsx
        · obtain ⟨k, rfl⟩ : ∃ k, x = s + k := ⟨x - s, by omega⟩
          obtain rfl : d = s - k := by omega
          have hk : k ≤ s := by omega
          obtain ⟨j, rfl⟩ : ∃ j, s = k + j := ⟨s - k, by omega⟩
          simp only [Nat.add_sub_cancel_left]
          rw [Nat.mul_add, Nat.add_mul, Nat.mul_add, Nat.mul_add]
          have := Nat.mul_comm j k
          omega
        · obtain ⟨k, rfl⟩ : ∃ k, s = x + k := ⟨s - x, by omega⟩
          obtain rfl : d = x + 2 * k := by omega
          rw [Nat.add_mul, Nat.add_mul, Nat.mul_add, Nat.mul_add, Nat.mul_assoc]
          have := Nat.mul_comm k x
          omega
      have : d ≤ n / x := (Nat.le_div_iff_mul_le hx).2 (by omega)
      omega
  omega
theorem newton_stop {n x : Nat} (hx : 0 < x) (hs : isq n ≤ x) (h : x ≤ (x + n / x) / 2) : x = isq n := by
  have h1 : x ≤ n / x := by omega
  have h2 : x * x ≤ n := (Nat.le_div_iff_mul_le hx).1 h1
  exact Nat.le_antisymm (le_isq h2) hs
theorem newton_bound {n x : Nat} (hx : 0 < x) (hs : isq n ≤ x) : n / x ≤ x + 2 := by
  have h := (isq_spec n).2
  have h2 : (isq n + 1) * (isq n + 1) ≤ (x + 1) * (x + 1) := Nat.mul_le_mul (by omega) (by omega)
  have h3 : n / x < x + 3 := by
    rw [Nat.div_lt_iff_lt_mul hx]
    have : (x + 1) * (x + 1) = x * x + 2 * x + 1 := by rw [Nat.add_mul, Nat.mul_add]; omega
    rw [Nat.add_mul]
    omega
  omega
theorem newton_start {n k : Nat} (h : n < 2 ^ k) : isq n ≤ 2 ^ ((k + 1) / 2) := by
  rcases Nat.lt_or_ge (2 ^ ((k + 1) / 2)) (isq n) with h' | h'
  · exfalso
    have h1 := (isq_spec n).1
    have h2 : 2 ^ ((k + 1) / 2) * 2 ^ ((k + 1) / 2) ≤ isq n * isq n := Nat.mul_le_mul (by omega) (by omega)
    rw [← Nat.pow_add] at h2
    have h3 : 2 ^ k ≤ 2 ^ ((k + 1) / 2 + (k + 1) / 2) := Nat.pow_le_pow_right (by decide) (by omega)
    omega
  · exact h'

/-- the reference's way: bit by bit, from 2^31 down -/
structure BitInv (n r b : Nat) : Prop where
  lo : r * r ≤ n
  hi : (b = 0 ∧ n < (r + 1) * (r + 1)) ∨ ∃ k, b = 2 ^ k ∧ n < (r + 2 * b) * (r + 2 * b)
  bd : r + 2 * b ≤ 4294967296
theorem bit_start {n : Nat} (h : n < 9223372036854775808) : BitInv n 0 2147483648 := by
  refine ⟨Nat.zero_le _, .inr ⟨31, rfl, Nat.lt_trans h (by decide)⟩, by decide⟩
theorem bit_end {n r : Nat} (h : BitInv n r 0) : r = isq n := by
  rcases h.hi with ⟨_, h2⟩ | ⟨k, hk, _⟩
  · exact isq_eq h.lo h2
  · have := Nat.two_pow_pos k; omega
theorem bit_halve {n r b : Nat} (hb : 0 < b) (hlo : r * r ≤ n) (hk : ∃ k, b = 2 ^ k) (hhi : n < (r + b) * (r + b)) (hbd : r + b ≤ 4294967296) : BitInv n r (b / 2) := by
  obtain ⟨k, rfl⟩ := hk
  refine ⟨hlo, ?_, by omega⟩
  cases k with
  | zero => exact .inl ⟨by decide, hhi⟩
  | succ k =>
    have e : 2 ^ (k + 1) / 2 = 2 ^ k := by rw [Nat.pow_succ]; exact Nat.mul_div_cancel _ (by decide)
    refine .inr ⟨k, e, ?_⟩
    rw [e]
    rw [show 2 ^ (k + 1) = 2 * 2 ^ k from by rw [Nat.pow_succ, Nat.mul_comm]] at hhi
    exact hhi
theorem bit_yes {n r b : Nat} (hb : 0 < b) (h : BitInv n r b) (hy : (r + b) * (r + b) ≤ n) : BitInv n (r + b) (b / 2) := by
  rcases h.hi with ⟨h0, _⟩ | ⟨k, hk, h2⟩
  · omega
  · have e : r + 2 * b = r + b + b := by omega
    rw [e] at h2
    exact bit_halve hb hy ⟨k, hk⟩ h2 (by have := h.bd; omega)
theorem bit_no {n r b : Nat} (hb : 0 < b) (h : BitInv n r b) (hy : ¬ (r + b) * (r + b) ≤ n) : BitInv n r (b / 2) := by
  rcases h.hi with ⟨h0, _⟩ | ⟨k, hk, h2⟩
  · omega
  · exact bit_halve hb h.lo ⟨k, hk⟩ (by omega) (by have := h.bd; omega)

end Go.Proofs.Fx
