/- Go's library at this program: math/bits.Div64 divides 128 by 64 bits (a walk through its text), LeadingZeros64 and Mul64 by the shelf. -/
import Derived.Test.YtkomooeohlcnaaaChecked
import Derived.Test.YtkomooeohlcnaaaFxPlain
import Derived.Test.YtkomooeohlcnaaaShelf
import Derived.WalkKit
import Derived.WalkLawsBesides
import Derived.Deep.QuietTactic
import Derived.BigQuiet
import Derived.Outline
import Derived.Lib.Mul64
import Derived.Lib.ItoaNum
import Derived.Laws.Bits64b
import Derived.Lib.Hide
namespace Go.Proofs.Ytkomooeohlcnaaa
set_option linter.unusedSimpArgs false
set_option linter.unusedVariables false
open Go.RowKit

theorem wrapu (a : Int) : IntKind.u64.wrap a = a % 18446744073709551616 := by rw [IntKind.wrap_u64]
theorem maskN (a : Nat) (ha : a < 18446744073709551616) : bits .and .u64 (a : Int) 4294967295 = ((a % 4294967296 : Nat) : Int) := by
  have h := bits_and_u64_nat a 4294967295 ha (by omega)
  have e : a &&& 4294967295 = a % 4294967296 := Nat.and_two_pow_sub_one_eq_mod a 32
  rw [e] at h
  exact h
theorem orN (a b s : Nat) (h : a * 2 ^ s + b < 18446744073709551616) (hb : b < 2 ^ s) : bits .or .u64 ((a * 2 ^ s : Nat) : Int) (b : Int) = ((a * 2 ^ s + b : Nat) : Int) := by
  have h1 := bits_or_u64_nat (a * 2 ^ s) b (by omega) (by omega)
  have e : a * 2 ^ s ||| b = a * 2 ^ s + b := by rw [Nat.mul_comm, ← Nat.two_pow_add_eq_or_of_lt hb]
  rw [e] at h1
  exact h1

theorem lz_any (y : Nat) (h0 : 0 < y) (h1 : y < 18446744073709551616) : ∃ s : Nat, s ≤ 63 ∧ 9223372036854775808 ≤ y * 2 ^ s ∧ y * 2 ^ s < 18446744073709551616 ∧
    ∀ w, Calls Try.prog 95 #[.int .u64 y] w fun e w' => e = .returned (.int .i64 (s : Int)) ∧ w' = w := by
  obtain ⟨b1, b2, b3⟩ := Lib.bitLenAux_bounds 64 y (by omega) (by omega)
  have b0 : Lib.bitLenAux 64 y ≤ 64 := by
    rcases Nat.lt_or_ge 64 (Lib.bitLenAux 64 y) with h | h
    · exfalso
      have : 2 ^ 64 ≤ 2 ^ (Lib.bitLenAux 64 y - 1) := Nat.pow_le_pow_right (by omega) (by omega)
      omega
    · exact h
  have hb : Lib.bitLen y = Lib.bitLenAux 64 y := rfl
  generalize hk : Lib.bitLenAux 64 y = k at *
  refine ⟨64 - k, by omega, ?_, ?_, fun w => ?_⟩
  · have e : 2 ^ (k - 1) * 2 ^ (64 - k) = 9223372036854775808 := by rw [← Nat.pow_add, show k - 1 + (64 - k) = 63 from by omega]
    have := Nat.mul_le_mul_right (2 ^ (64 - k)) b2
    omega
  · have e : 2 ^ k * 2 ^ (64 - k) = 18446744073709551616 := by rw [← Nat.pow_add, show k + (64 - k) = 64 from by omega]
    have := Nat.mul_lt_mul_of_pos_right b3 (Nat.two_pow_pos (64 - k))
    omega
  · refine (Try.bits_LeadingZeros64 (y : Int) w (by omega) (by omega)).mono ?_
    rintro e w' ⟨rfl, rfl⟩
    refine ⟨?_, rfl⟩
    rw [Int.toNat_natCast, hb]
    congr 2
    omega

/-- the loop's relation, as a word of its own -/
def GRel (u y1 y0 d : Nat) (q rh : Value) : Prop := ∃ Q R : Nat, q = .int .u64 Q ∧ rh = .int .u64 R ∧ Fx.KInv u y1 y0 d Q R ∧ Q ≤ 4294967297

set_option maxRecDepth 100000 in
set_option maxHeartbeats 1000000 in
theorem div64_core (hi lo y s Y y1 y0 u Z d1 d0 g1 k1 Q1 R1 g0 k0 Q0 R0 : Nat) (p1 : hi < y) (p2 : y < 18446744073709551616) (p3 : lo < 18446744073709551616) (p4 : 0 < hi) (hs : s ≤ 63) (w : World)
    (lz : ∀ w, Calls Try.prog 95 #[.int .u64 y] w fun e w' => e = .returned (.int .i64 s) ∧ w' = w)
    (eY : IntKind.u64.wrap (↑y * 2 ^ s) = ↑Y) (eY1 : (Y : Int) / 4294967296 = ↑y1) (eY0 : bits .and .u64 (↑Y) 4294967295 = ↑y0)
    (eU : bits .or .u64 (IntKind.u64.wrap (↑hi * 2 ^ s)) (↑lo / 2 ^ (64 - s)) = ↑u) (eZ : IntKind.u64.wrap (↑lo * 2 ^ s) = ↑Z) (eD1 : (Z : Int) / 4294967296 = ↑d1) (eD0 : bits .and .u64 (↑Z) 4294967295 = ↑d0)
    (eG : (u : Int) / ↑y1 = ↑g1) (eK : IntKind.u64.wrap (↑u - IntKind.u64.wrap (↑g1 * ↑y1)) = ↑k1)
    (b1 : 2147483648 ≤ y1) (b1' : y1 < 4294967296) (b0 : y0 < 4294967296) (bd1 : d1 < 4294967296) (bd0 : d0 < 4294967296) (bu : u < 18446744073709551616)
    (hu : u < y1 * 4294967296 + y0) (hK1 : Fx.KInv u y1 y0 d1 g1 k1) (hG1 : g1 ≤ 4294967297)
    (hQ1 : (u * 4294967296 + d1) / (y1 * 4294967296 + y0) = Q1)
    (eR1 : IntKind.u64.wrap (IntKind.u64.wrap (IntKind.u64.wrap (↑u * 4294967296) + ↑d1) - IntKind.u64.wrap (↑Q1 * ↑Y)) = ↑R1)
    (eG0 : (R1 : Int) / ↑y1 = ↑g0) (eK0 : IntKind.u64.wrap (↑R1 - IntKind.u64.wrap (↑g0 * ↑y1)) = ↑k0)
    (hK0 : Fx.KInv R1 y1 y0 d0 g0 k0) (hG0 : g0 ≤ 4294967297) (hr1 : R1 < y1 * 4294967296 + y0) (br1 : R1 < 18446744073709551616)
    (hQ0 : (R1 * 4294967296 + d0) / (y1 * 4294967296 + y0) = Q0) (bQ1 : Q1 < 4294967296) (bQ0 : Q0 < 4294967296)
    (eR0 : IntKind.u64.wrap (IntKind.u64.wrap (IntKind.u64.wrap (↑R1 * 4294967296) + ↑d0) - IntKind.u64.wrap (↑Q0 * ↑Y)) = ↑R0)
     :
    Calls Try.prog 80 #[.int .u64 hi, .int .u64 lo, .int .u64 y] w fun e w' => e = .returned (.tuple #[.int .u64 ((Q1 * 4294967296 + Q0 : Nat) : Int), .int .u64 ((R0 / 2 ^ s : Nat) : Int)]) ∧ w' = w := by
  have HL := Lib.hid lz
  have HQ1 := Lib.hid hQ1
  have HQ0 := Lib.hid hQ0
  clear lz hQ1 hQ0
  go_enter Try.func80, Try.ntmps80
  go_wp2_with (go_at_call 95; refine (HL.out _).mono ?_; rintro e w' ⟨rfl, rfl⟩)
  go_loop [15, 16] (fun q rh => GRel u y1 y0 d1 q rh) (fun q _ => (intOf q).toNat)
  case atStart => exact ⟨g1, k1, rfl, rfl, hK1, hG1⟩
  case round =>
    obtain ⟨q, rh, rfl, rfl, hK, hq⟩ := hrel
    have hrh : (rh : Int) ≤ 4294967295 := by have := hK.rh_lt; omega
    have HK := Lib.hid hK
    clear hK
    by_cases hc : (4294967296 : Int) ≤ q
    · have hc' : 4294967296 ≤ q ∨ 4294967296 * rh + d1 < q * y0 := .inl (by omega)
      have hlow := (Fx.k_lower hu bd1 HK.out hc').1
      have HC := Lib.hid hc'
      clear hc'
      by_cases hb : (4294967296 : Int) ≤ rh + y1
      · have HE : q - 1 = Q1 := (Fx.k_break b1 b0 hu bd1 HK.out HC.out (by omega)).trans HQ1.out
        have hE : (q : Int) - 1 = Q1 := by omega
        have hqz : ¬ (q : Int) < 1 := by omega
        clear HE
        go_wp2_with fail
        go_loop [18, 16] (fun q rh => GRel R1 y1 y0 d0 q rh) (fun q _ => (intOf q).toNat)
        case atStart => exact ⟨g0, k0, rfl, rfl, hK0, hG0⟩
        case round =>
          clear HK
          obtain ⟨q2, rh2, rfl, rfl, hK, hq2⟩ := hrel
          have hrh : (rh2 : Int) ≤ 4294967295 := by have := hK.rh_lt; omega
          have HK := Lib.hid hK
          clear hK
          by_cases hc : (4294967296 : Int) ≤ q2
          · have hc' : 4294967296 ≤ q2 ∨ 4294967296 * rh2 + d0 < q2 * y0 := .inl (by omega)
            have hlow := (Fx.k_lower hr1 bd0 HK.out hc').1
            have HC := Lib.hid hc'
            clear hc'
            by_cases hb : (4294967296 : Int) ≤ rh2 + y1
            · have HE : q2 - 1 = Q0 := (Fx.k_break b1 b0 hr1 bd0 HK.out HC.out (by omega)).trans HQ0.out
              have hE : (q2 : Int) - 1 = Q0 := by omega
              have hqz : ¬ (q2 : Int) < 1 := by omega
              clear HE
              go_wp2_with fail
              go_ret2
              exact ⟨by rfl, rfl⟩
            · have HN := Lib.hid (Fx.k_next hr1 bd0 HK.out HC.out (by omega))
              go_wp2_with fail
              go_round
              case rel => exact ⟨q2 - 1, rh2 + y1, by congr 1; omega, by congr 1, HN.out, by omega⟩
              case measure => simp only [intOf]; omega
          · have hm : q2 * y0 < 18446744073709551616 := Fx.mul_lt_64 (by omega) b0
            have hm1 : (q2 : Int) * (y0 : Int) ≤ 18446744073709551615 := by rw [← Int.natCast_mul]; omega
            have hm0 : 0 ≤ (q2 : Int) * (y0 : Int) := by rw [← Int.natCast_mul]; omega
            clear hm
            by_cases hc2 : 4294967296 * (rh2 : Int) + d0 < (q2 : Int) * y0
            · have hc' : 4294967296 ≤ q2 ∨ 4294967296 * rh2 + d0 < q2 * y0 := .inr (by rw [← Int.natCast_mul] at hc2; omega)
              have hlow := (Fx.k_lower hr1 bd0 HK.out hc').1
              have HC := Lib.hid hc'
              clear hc'
              by_cases hb : (4294967296 : Int) ≤ rh2 + y1
              · have HE : q2 - 1 = Q0 := (Fx.k_break b1 b0 hr1 bd0 HK.out HC.out (by omega)).trans HQ0.out
                have hE : (q2 : Int) - 1 = Q0 := by omega
                have hqz : ¬ (q2 : Int) < 1 := by omega
                clear HE
                go_wp2_with fail
                go_ret2
                exact ⟨by rfl, rfl⟩
              · have HN := Lib.hid (Fx.k_next hr1 bd0 HK.out HC.out (by omega))
                go_wp2_with fail
                go_round
                case rel => exact ⟨q2 - 1, rh2 + y1, by congr 1; omega, by congr 1, HN.out, by omega⟩
                case measure => simp only [intOf]; omega
            · have HE : q2 = Q0 := (Fx.k_exit (by omega) HK.out (by rw [← Int.natCast_mul] at hc2; omega)).trans HQ0.out
              subst HE
              go_wp2_with fail
              go_ret2
              exact ⟨by rfl, rfl⟩
      · have HN := Lib.hid (Fx.k_next hu bd1 HK.out HC.out (by omega))
        go_wp2_with fail
        go_round
        case rel => exact ⟨q - 1, rh + y1, by congr 1; omega, by congr 1, HN.out, by omega⟩
        case measure => simp only [intOf]; omega
    · have hm : q * y0 < 18446744073709551616 := Fx.mul_lt_64 (by omega) b0
      have hm1 : (q : Int) * (y0 : Int) ≤ 18446744073709551615 := by rw [← Int.natCast_mul]; omega
      have hm0 : 0 ≤ (q : Int) * (y0 : Int) := by rw [← Int.natCast_mul]; omega
      clear hm
      by_cases hc2 : 4294967296 * (rh : Int) + d1 < (q : Int) * y0
      · have hc' : 4294967296 ≤ q ∨ 4294967296 * rh + d1 < q * y0 := .inr (by rw [← Int.natCast_mul] at hc2; omega)
        have hlow := (Fx.k_lower hu bd1 HK.out hc').1
        have HC := Lib.hid hc'
        clear hc'
        by_cases hb : (4294967296 : Int) ≤ rh + y1
        · have HE : q - 1 = Q1 := (Fx.k_break b1 b0 hu bd1 HK.out HC.out (by omega)).trans HQ1.out
          have hE : (q : Int) - 1 = Q1 := by omega
          have hqz : ¬ (q : Int) < 1 := by omega
          clear HE
          go_wp2_with fail
          go_loop [18, 16] (fun q rh => GRel R1 y1 y0 d0 q rh) (fun q _ => (intOf q).toNat)
          case atStart => exact ⟨g0, k0, rfl, rfl, hK0, hG0⟩
          case round =>
            clear HK
            obtain ⟨q2, rh2, rfl, rfl, hK, hq2⟩ := hrel
            have hrh : (rh2 : Int) ≤ 4294967295 := by have := hK.rh_lt; omega
            have HK := Lib.hid hK
            clear hK
            by_cases hc : (4294967296 : Int) ≤ q2
            · have hc' : 4294967296 ≤ q2 ∨ 4294967296 * rh2 + d0 < q2 * y0 := .inl (by omega)
              have hlow := (Fx.k_lower hr1 bd0 HK.out hc').1
              have HC := Lib.hid hc'
              clear hc'
              by_cases hb : (4294967296 : Int) ≤ rh2 + y1
              · have HE : q2 - 1 = Q0 := (Fx.k_break b1 b0 hr1 bd0 HK.out HC.out (by omega)).trans HQ0.out
                have hE : (q2 : Int) - 1 = Q0 := by omega
                have hqz : ¬ (q2 : Int) < 1 := by omega
                clear HE
                go_wp2_with fail
                go_ret2
                exact ⟨by rfl, rfl⟩
              · have HN := Lib.hid (Fx.k_next hr1 bd0 HK.out HC.out (by omega))
                go_wp2_with fail
                go_round
                case rel => exact ⟨q2 - 1, rh2 + y1, by congr 1; omega, by congr 1, HN.out, by omega⟩
                case measure => simp only [intOf]; omega
            · have hm : q2 * y0 < 18446744073709551616 := Fx.mul_lt_64 (by omega) b0
              have hm1 : (q2 : Int) * (y0 : Int) ≤ 18446744073709551615 := by rw [← Int.natCast_mul]; omega
              have hm0 : 0 ≤ (q2 : Int) * (y0 : Int) := by rw [← Int.natCast_mul]; omega
              clear hm
              by_cases hc2 : 4294967296 * (rh2 : Int) + d0 < (q2 : Int) * y0
              · have hc' : 4294967296 ≤ q2 ∨ 4294967296 * rh2 + d0 < q2 * y0 := .inr (by rw [← Int.natCast_mul] at hc2; omega)
                have hlow := (Fx.k_lower hr1 bd0 HK.out hc').1
                have HC := Lib.hid hc'
                clear hc'
                by_cases hb : (4294967296 : Int) ≤ rh2 + y1
                · have HE : q2 - 1 = Q0 := (Fx.k_break b1 b0 hr1 bd0 HK.out HC.out (by omega)).trans HQ0.out
                  have hE : (q2 : Int) - 1 = Q0 := by omega
                  have hqz : ¬ (q2 : Int) < 1 := by omega
                  clear HE
                  go_wp2_with fail
                  go_ret2
                  exact ⟨by rfl, rfl⟩
                · have HN := Lib.hid (Fx.k_next hr1 bd0 HK.out HC.out (by omega))
                  go_wp2_with fail
                  go_round
                  case rel => exact ⟨q2 - 1, rh2 + y1, by congr 1; omega, by congr 1, HN.out, by omega⟩
                  case measure => simp only [intOf]; omega
              · have HE : q2 = Q0 := (Fx.k_exit (by omega) HK.out (by rw [← Int.natCast_mul] at hc2; omega)).trans HQ0.out
                subst HE
                go_wp2_with fail
                go_ret2
                exact ⟨by rfl, rfl⟩
        · have HN := Lib.hid (Fx.k_next hu bd1 HK.out HC.out (by omega))
          go_wp2_with fail
          go_round
          case rel => exact ⟨q - 1, rh + y1, by congr 1; omega, by congr 1, HN.out, by omega⟩
          case measure => simp only [intOf]; omega
      · have HE : q = Q1 := (Fx.k_exit (by omega) HK.out (by rw [← Int.natCast_mul] at hc2; omega)).trans HQ1.out
        subst HE
        go_wp2_with fail
        go_loop [18, 16] (fun q rh => GRel R1 y1 y0 d0 q rh) (fun q _ => (intOf q).toNat)
        case atStart => exact ⟨g0, k0, rfl, rfl, hK0, hG0⟩
        case round =>
          clear HK
          obtain ⟨q2, rh2, rfl, rfl, hK, hq2⟩ := hrel
          have hrh : (rh2 : Int) ≤ 4294967295 := by have := hK.rh_lt; omega
          have HK := Lib.hid hK
          clear hK
          by_cases hc : (4294967296 : Int) ≤ q2
          · have hc' : 4294967296 ≤ q2 ∨ 4294967296 * rh2 + d0 < q2 * y0 := .inl (by omega)
            have hlow := (Fx.k_lower hr1 bd0 HK.out hc').1
            have HC := Lib.hid hc'
            clear hc'
            by_cases hb : (4294967296 : Int) ≤ rh2 + y1
            · have HE : q2 - 1 = Q0 := (Fx.k_break b1 b0 hr1 bd0 HK.out HC.out (by omega)).trans HQ0.out
              have hE : (q2 : Int) - 1 = Q0 := by omega
              have hqz : ¬ (q2 : Int) < 1 := by omega
              clear HE
              go_wp2_with fail
              go_ret2
              exact ⟨by rfl, rfl⟩
            · have HN := Lib.hid (Fx.k_next hr1 bd0 HK.out HC.out (by omega))
              go_wp2_with fail
              go_round
              case rel => exact ⟨q2 - 1, rh2 + y1, by congr 1; omega, by congr 1, HN.out, by omega⟩
              case measure => simp only [intOf]; omega
          · have hm : q2 * y0 < 18446744073709551616 := Fx.mul_lt_64 (by omega) b0
            have hm1 : (q2 : Int) * (y0 : Int) ≤ 18446744073709551615 := by rw [← Int.natCast_mul]; omega
            have hm0 : 0 ≤ (q2 : Int) * (y0 : Int) := by rw [← Int.natCast_mul]; omega
            clear hm
            by_cases hc2 : 4294967296 * (rh2 : Int) + d0 < (q2 : Int) * y0
            · have hc' : 4294967296 ≤ q2 ∨ 4294967296 * rh2 + d0 < q2 * y0 := .inr (by rw [← Int.natCast_mul] at hc2; omega)
              have hlow := (Fx.k_lower hr1 bd0 HK.out hc').1
              have HC := Lib.hid hc'
              clear hc'
              by_cases hb : (4294967296 : Int) ≤ rh2 + y1
              · have HE : q2 - 1 = Q0 := (Fx.k_break b1 b0 hr1 bd0 HK.out HC.out (by omega)).trans HQ0.out
                have hE : (q2 : Int) - 1 = Q0 := by omega
                have hqz : ¬ (q2 : Int) < 1 := by omega
                clear HE
                go_wp2_with fail
                go_ret2
                exact ⟨by rfl, rfl⟩
              · have HN := Lib.hid (Fx.k_next hr1 bd0 HK.out HC.out (by omega))
                go_wp2_with fail
                go_round
                case rel => exact ⟨q2 - 1, rh2 + y1, by congr 1; omega, by congr 1, HN.out, by omega⟩
                case measure => simp only [intOf]; omega
            · have HE : q2 = Q0 := (Fx.k_exit (by omega) HK.out (by rw [← Int.natCast_mul] at hc2; omega)).trans HQ0.out
              subst HE
              go_wp2_with fail
              go_ret2
              exact ⟨by rfl, rfl⟩
end Go.Proofs.Ytkomooeohlcnaaa
