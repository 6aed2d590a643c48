/- Layer 1: the contracts of all functions of package fixed, and of its reference, but the roots. -/
import Derived.Test.YtkomooeohlcnaaaFxScale
import Derived.Test.YtkomooeohlcnaaaFxQuo
import Derived.Test.YtkomooeohlcnaaaFxMath
namespace Go.Proofs.Ytkomooeohlcnaaa
set_option linter.unusedSimpArgs false
set_option linter.unusedVariables false
open Go.RowKit

/-- what is needed of an int64 -/
def I64 (a : Int) : Prop := -9223372036854775808 ≤ a ∧ a ≤ 9223372036854775807
/-- the nearest int64 -/
def satV (x : Int) : Int := if 9223372036854775807 < x then 9223372036854775807 else if x < -9223372036854775808 then -9223372036854775808 else x
def clampV (x lo hi : Int) : Int := if x < lo then lo else if hi < x then hi else x
theorem satV_mid {x : Int} (h : I64 x) : satV x = x := by unfold I64 at h; unfold satV; rw [if_neg (by omega), if_neg (by omega)]
theorem satV_hi {x : Int} (h : 9223372036854775807 < x) : satV x = 9223372036854775807 := by unfold satV; rw [if_pos h]
theorem satV_lo {x : Int} (h : x < -9223372036854775808) : satV x = -9223372036854775808 := by unfold satV; rw [if_neg (by omega), if_pos h]
theorem satV_I64 (x : Int) : I64 (satV x) := by
  unfold I64 satV
  split
  · omega
  · split <;> omega
def modV (a b : Int) : Int := if b < 1 then 0 else a % b
def modE (b : Int) : Int := if b < 1 then 1 else 0
def limV (n : Bool) : Int := if n then -9223372036854775808 else 9223372036854775807
theorem Fx_scV_I64 (m : Nat) (a b c : Int) : I64 (Fx.scV m a b c) := by
  unfold I64 Fx.scV
  split
  · omega
  · unfold Fx.sgV
    split <;> split <;> omega

theorem scale_down (a b c : Int) (ha : I64 a) (hb : I64 b) (hc : I64 c) (w : World) :
    Calls Try.prog 56 #[.int .i64 a, .int .i64 b, .int .i64 c, .int .u8 0] w fun e w' => e = .returned (.tuple #[.int .i64 (Fx.scV 0 a b c), .int .i64 (Fx.scE 0 a b c)]) ∧ ∃ n, w' = w.drewN n :=
  scale_any a b c 0 (.inl rfl) ha.1 ha.2 hb.1 hb.2 hc.1 hc.2 w
theorem scale_up (a b c : Int) (ha : I64 a) (hb : I64 b) (hc : I64 c) (w : World) :
    Calls Try.prog 56 #[.int .i64 a, .int .i64 b, .int .i64 c, .int .u8 1] w fun e w' => e = .returned (.tuple #[.int .i64 (Fx.scV 1 a b c), .int .i64 (Fx.scE 1 a b c)]) ∧ ∃ n, w' = w.drewN n :=
  scale_any a b c 1 (.inr (.inl rfl)) ha.1 ha.2 hb.1 hb.2 hc.1 hc.2 w
theorem scale_near (a b c : Int) (ha : I64 a) (hb : I64 b) (hc : I64 c) (w : World) :
    Calls Try.prog 56 #[.int .i64 a, .int .i64 b, .int .i64 c, .int .u8 2] w fun e w' => e = .returned (.tuple #[.int .i64 (Fx.scV 2 a b c), .int .i64 (Fx.scE 2 a b c)]) ∧ ∃ n, w' = w.drewN n :=
  scale_any a b c 2 (.inr (.inr rfl)) ha.1 ha.2 hb.1 hb.2 hc.1 hc.2 w
theorem tmod_bounds (a b : Int) (hb : 0 < b) : -b < a.tmod b ∧ a.tmod b < b := by
  have h1 := Int.emod_nonneg a (show b ≠ 0 by omega)
  have h2 := Int.emod_lt_of_pos a hb
  have h3 := Int.tmod_eq_emod (a := a) (b := b)
  have h4 := Int.tmod_lt_of_pos a hb
  refine ⟨?_, h4⟩
  rw [h3]
  split
  · omega
  · rename_i hd
    have : a % b ≠ 0 := fun h0 => hd (.inr (Int.dvd_of_emod_eq_zero h0))
    omega
theorem tmod_cases (a b : Int) (hb : 0 < b) : (a.tmod b < 0 → a.tmod b + b = a % b) ∧ (¬ a.tmod b < 0 → a.tmod b = a % b) := by
  have h1 := Int.emod_nonneg a (show b ≠ 0 by omega)
  have h2 := Int.emod_lt_of_pos a hb
  have h3 := Int.tmod_eq_emod (a := a) (b := b)
  split at h3 <;> constructor <;> omega
theorem one_I64 : I64 1 := ⟨by decide, by decide⟩
theorem xFloor (a b : Int) (ha : I64 a) (hb : I64 b) (w : World) :
    Calls Try.prog 94 #[.int .i64 a, .int .i64 b] w fun e w' => e = .returned (.tuple #[.int .i64 (Fx.scV 0 a 1 b), .int .i64 (Fx.scE 0 a 1 b)]) ∧ ∃ n, w' = w.drewN n := by
  have H := Lib.hid (scale_down a 1 b ha one_I64 hb)
  go_enter Try.func94, Try.ntmps94
  go_wp2_with fail
  refine (H.out _).mono ?_; rintro e w' ⟨rfl, n, rfl⟩
  go_wp2_with fail
  go_ret2
  exact ⟨rfl, n, rfl⟩
theorem xRound (a b : Int) (ha : I64 a) (hb : I64 b) (w : World) :
    Calls Try.prog 31 #[.int .i64 a, .int .i64 b] w fun e w' => e = .returned (.tuple #[.int .i64 (Fx.scV 2 a 1 b), .int .i64 (Fx.scE 2 a 1 b)]) ∧ ∃ n, w' = w.drewN n := by
  have H := Lib.hid (scale_near a 1 b ha one_I64 hb)
  go_enter Try.func31, Try.ntmps31
  go_wp2_with fail
  refine (H.out _).mono ?_; rintro e w' ⟨rfl, n, rfl⟩
  go_wp2_with fail
  go_ret2
  exact ⟨rfl, n, rfl⟩
theorem xMulDiv (a b c : Int) (ha : I64 a) (hb : I64 b) (hc : I64 c) (w : World) :
    Calls Try.prog 55 #[.int .i64 a, .int .i64 b, .int .i64 c] w fun e w' => e = .returned (.tuple #[.int .i64 (Fx.scV 0 a b c), .int .i64 (Fx.scE 0 a b c)]) ∧ ∃ n, w' = w.drewN n := by
  have H := Lib.hid (scale_down a b c ha hb hc)
  go_enter Try.func55, Try.ntmps55
  go_wp2_with fail
  refine (H.out _).mono ?_; rintro e w' ⟨rfl, n, rfl⟩
  go_wp2_with fail
  go_ret2
  exact ⟨rfl, n, rfl⟩
theorem xClamp (x lo hi : Int) (w : World) :
    Calls Try.prog 15 #[.int .i64 x, .int .i64 lo, .int .i64 hi] w fun e w' => e = .returned (.int .i64 (clampV x lo hi)) ∧ w = w' := by
  by_cases h1 : x < lo
  · have hv := Lib.hid (show clampV x lo hi = lo by unfold clampV; rw [if_pos h1])
    go_enter Try.func15, Try.ntmps15
    go_wp2
    go_ret
    exact ⟨ret_int hv.out.symm, rfl⟩
  · by_cases h2 : hi < x
    · have hv := Lib.hid (show clampV x lo hi = hi by unfold clampV; rw [if_neg h1, if_pos h2])
      go_enter Try.func15, Try.ntmps15
      go_wp2
      go_ret
      exact ⟨ret_int hv.out.symm, rfl⟩
    · have hv := Lib.hid (show clampV x lo hi = x by unfold clampV; rw [if_neg h1, if_neg h2])
      go_enter Try.func15, Try.ntmps15
      go_wp2
      go_ret
      exact ⟨ret_int hv.out.symm, rfl⟩
theorem xAbs (a : Int) (ha : I64 a) (w : World) :
    Calls Try.prog 21 #[.int .i64 a] w fun e w' => e = .returned (.int .i64 (satV (a.natAbs : Int))) ∧ w = w' := by
  obtain ⟨a0, a1⟩ := ha
  by_cases h1 : a = -9223372036854775808
  · subst h1
    go_enter Try.func21, Try.ntmps21
    go_wp2
    go_ret
    exact ⟨ret_int (by decide), rfl⟩
  · have hb : (a == -9223372036854775808) = false := beq_eq_false_iff_ne.2 h1
    have hv := Lib.hid (satV_mid (x := (a.natAbs : Int)) ⟨by omega, by omega⟩)
    have H1 := Lib.hid h1
    have b1 : -9223372036854775807 ≤ a := by omega
    clear h1
    rcases Int.lt_or_le a 0 with pa | pa
    · have hn := Lib.hid (show (a.natAbs : Int) = -a by omega)
      go_enter Try.func21, Try.ntmps21
      go_wp2
      go_ret
      exact ⟨ret_int (by rw [hv.out, hn.out]), rfl⟩
    · have hn := Lib.hid (show (a.natAbs : Int) = a by omega)
      go_enter Try.func21, Try.ntmps21
      go_wp2
      go_ret
      exact ⟨ret_int (by rw [hv.out, hn.out]), rfl⟩

theorem mul_natAbs (a b : Int) : ((a.natAbs * b.natAbs : Nat) : Int) = if ((decide (a < 0)) != (decide (b < 0))) = true then -(a * b) else a * b := by
  rw [Int.natCast_mul]
  by_cases ha : a < 0 <;> by_cases hb : b < 0
  · rw [Fx.natAbs_of_neg ha, Fx.natAbs_of_neg hb]; simp [ha, hb, Int.neg_mul, Int.mul_neg, Int.neg_neg]
  · rw [Fx.natAbs_of_neg ha, Fx.natAbs_of_pos hb]; simp [ha, hb, Int.neg_mul, Int.mul_neg, Int.neg_neg]
  · rw [Fx.natAbs_of_pos ha, Fx.natAbs_of_neg hb]; simp [ha, hb, Int.neg_mul, Int.mul_neg, Int.neg_neg]
  · rw [Fx.natAbs_of_pos ha, Fx.natAbs_of_pos hb]; simp [ha, hb]
/-- the size and the sign of a product, as an int64 or the end on its side -/
def mulV (q : Nat) (neg : Bool) : Int := if Fx.sgE q neg = 0 then Fx.sgV q neg else limV neg
theorem mulV_eq (a b : Int) : mulV (a.natAbs * b.natAbs) (decide (a < 0) != decide (b < 0)) = satV (a * b) := by
  have h := mul_natAbs a b
  generalize a.natAbs * b.natAbs = q at *
  generalize a * b = x at *
  generalize (decide (a < 0) != decide (b < 0)) = neg at *
  unfold mulV satV limV Fx.sgE Fx.sgV
  cases neg
  · simp only [Bool.false_eq_true, if_false] at h ⊢
    repeat' split
    all_goals omega
  · simp only [if_true] at h ⊢
    repeat' split
    all_goals omega
theorem mul_hi_lim {q : Nat} {neg : Bool} (h : 0 < q / 18446744073709551616) : mulV q neg = limV neg := by
  unfold mulV
  have : Fx.sgE q neg = 2 := by
    cases neg
    · simp only [Fx.sgE, Bool.false_eq_true, if_false]; rw [if_neg (by omega)]
    · simp only [Fx.sgE, if_true]; rw [if_neg (by omega)]
  rw [this]; rfl


theorem rqz_one (m : Nat) (n : Int) (hm : m = 0) : Fx.rqz m n 1 = n := by subst hm; simp [Fx.rqz, Fx.rq]
end Go.Proofs.Ytkomooeohlcnaaa
