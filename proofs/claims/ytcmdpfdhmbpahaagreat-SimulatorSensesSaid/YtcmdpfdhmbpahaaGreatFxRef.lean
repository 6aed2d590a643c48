/- The reference of layer 1: Size, Product and Divide compute the absolute value, the product of two words, and the quotient of two words by one. -/
import Derived.Test.YtcmdpfdhmbpahaaGreatFxDivAny
namespace Go.Proofs.YtcmdpfdhmbpahaaGreat
set_option linter.unusedSimpArgs false
set_option linter.unusedVariables false
open Go.RowKit

theorem ret_intR {k : IntKind} {a b : Int} (h : a = b) : Ending.returned (.int k a) = .returned (.int k b) := by rw [h]

theorem rsize_any (a : Int) (h0 : -9223372036854775808 ≤ a) (h1 : a ≤ 9223372036854775807) (w : World) :
    Calls Tryz.prog 111 #[.int .i64 a] w fun e w' => e = .returned (.int .u64 (a.natAbs : Int)) ∧ w = w' := by
  by_cases h : a < 0
  · go_enter Tryz.func111, Tryz.ntmps111
    go_wp2
    go_ret
    exact ⟨ret_intR (by omega), rfl⟩
  · go_enter Tryz.func111, Tryz.ntmps111
    go_wp2
    go_ret
    exact ⟨ret_intR (by omega), rfl⟩

theorem mulN (a b : Nat) : (a : Int) * (b : Int) = ((a * b : Nat) : Int) := (Int.natCast_mul a b).symm
theorem addN (a b : Nat) : (a : Int) + (b : Int) = ((a + b : Nat) : Int) := (Int.natCast_add a b).symm
theorem divN (a : Nat) : (a : Int) / 4294967296 = ((a / 4294967296 : Nat) : Int) := by omega
theorem shlN (a : Nat) : IntKind.u64.wrap ((a : Int) * 4294967296) = ((a % 4294967296 * 4294967296 : Nat) : Int) := by rw [wrapu]; omega
theorem or32 (a b : Nat) (ha : a < 4294967296) (hb : b < 4294967296) : bits .or .u64 ((a * 4294967296 : Nat) : Int) (b : Int) = ((a * 4294967296 + b : Nat) : Int) := by
  have h := orN a b 32 (by omega) hb
  exact h
theorem prod_lo (x y n l : Nat) (hn : n = x % 4294967296 * (y / 4294967296) + (x / 4294967296 * (y % 4294967296) + x % 4294967296 * (y % 4294967296) / 4294967296) % 4294967296) (hl : l = x % 4294967296 * (y % 4294967296)) :
    n % 4294967296 * 4294967296 + l % 4294967296 = x * y % 18446744073709551616 := by
  have e : x * y = (x / 4294967296) * (y / 4294967296) * (4294967296 * 4294967296) + ((x / 4294967296) * (y % 4294967296) + (x % 4294967296) * (y / 4294967296)) * 4294967296 + (x % 4294967296) * (y % 4294967296) := by
    have hx := split32 x
    have hy := split32 y
    generalize x / 4294967296 = x1 at *
    generalize x % 4294967296 = x0 at *
    generalize y / 4294967296 = y1 at *
    generalize y % 4294967296 = y0 at *
    rw [← hx, ← hy]
    generalize 4294967296 = B
    simp only [Nat.add_mul, Nat.mul_add, Nat.mul_assoc, Nat.mul_left_comm, Nat.mul_comm, Nat.add_assoc, Nat.add_left_comm, Nat.add_comm]
  rw [e, hn, hl]
  generalize x / 4294967296 * (y / 4294967296) = a at *
  generalize x / 4294967296 * (y % 4294967296) = b at *
  generalize x % 4294967296 * (y / 4294967296) = c at *
  generalize x % 4294967296 * (y % 4294967296) = d at *
  omega

set_option maxRecDepth 100000 in
set_option maxHeartbeats 1000000 in
theorem product_any (x y : Nat) (hx : x < 18446744073709551616) (hy : y < 18446744073709551616) (w : World) :
    Calls Tryz.prog 110 #[.int .u64 x, .int .u64 y] w fun e w' => e = .returned (.tuple #[.int .u64 ((x * y / 18446744073709551616 : Nat) : Int), .int .u64 ((x * y % 18446744073709551616 : Nat) : Int)]) ∧ w = w' := by
  obtain ⟨bd, bt, bw, hhi⟩ := Lib.mul64_hi x y hx hy
  have ba := Lib.half_mul_le (a := x / 4294967296) (b := y / 4294967296) (by omega) (by omega)
  have bb := Lib.half_mul_le (a := x / 4294967296) (b := y % 4294967296) (by omega) (by omega)
  have bc := Lib.half_mul_le (a := x % 4294967296) (b := y / 4294967296) (by omega) (by omega)
  have ba' : x / 4294967296 * (y / 4294967296) < 18446744073709551616 := by omega
  have bb' : x / 4294967296 * (y % 4294967296) < 18446744073709551616 := by omega
  have bc' : x % 4294967296 * (y / 4294967296) < 18446744073709551616 := by omega
  have bw' : x % 4294967296 * (y / 4294967296) + (x / 4294967296 * (y % 4294967296) + x % 4294967296 * (y % 4294967296) / 4294967296) % 4294967296 < 18446744073709551616 := by omega
  have hhi' : x / 4294967296 * (y / 4294967296) + (x / 4294967296 * (y % 4294967296) + x % 4294967296 * (y % 4294967296) / 4294967296) / 4294967296 + (x % 4294967296 * (y / 4294967296) + (x / 4294967296 * (y % 4294967296) + x % 4294967296 * (y % 4294967296) / 4294967296) % 4294967296) / 4294967296 = x * y / 18446744073709551616 := by
    rw [← hhi, Nat.add_comm (x % 4294967296 * (y / 4294967296))]
  have bh1 : x / 4294967296 * (y / 4294967296) + (x / 4294967296 * (y % 4294967296) + x % 4294967296 * (y % 4294967296) / 4294967296) / 4294967296 < 18446744073709551616 := by omega
  have bh : x / 4294967296 * (y / 4294967296) + (x / 4294967296 * (y % 4294967296) + x % 4294967296 * (y % 4294967296) / 4294967296) / 4294967296 + (x % 4294967296 * (y / 4294967296) + (x / 4294967296 * (y % 4294967296) + x % 4294967296 * (y % 4294967296) / 4294967296) % 4294967296) / 4294967296 < 18446744073709551616 := by omega
  have hlo := prod_lo x y _ _ rfl rfl
  have hlo2 : x * y % 18446744073709551616 < 18446744073709551616 := Nat.mod_lt _ (by decide)
  have m1 : (x % 4294967296 * (y / 4294967296) + (x / 4294967296 * (y % 4294967296) + x % 4294967296 * (y % 4294967296) / 4294967296) % 4294967296) % 4294967296 < 4294967296 := Nat.mod_lt _ (by decide)
  have m2 : x % 4294967296 * (y % 4294967296) % 4294967296 < 4294967296 := Nat.mod_lt _ (by decide)
  go_enter Tryz.func110, Tryz.ntmps110
  go_wp2
  simp only [maskN x hx, maskN y hy, divN, mulN, addN, wrapN _ bd, wrapN _ bb', wrapN _ bt, maskN _ bt, wrapN _ bc', wrapN _ bw', wrapN _ ba', wrapN _ bh1, wrapN _ bh, maskN _ bd, shlN]
  rw [hhi']
  rw [or32 _ _ m1 m2, hlo]
  go_ret2
  exact ⟨rfl, rfl⟩

/-- the relation of Divide's loop -/
def DRel (N c : Nat) (s0 s1 s6 s7 s8 s9 : Value) : Prop :=
  ∃ k h l r qh ql : Nat, s0 = .int .u64 h ∧ s1 = .int .u64 l ∧ s6 = .int .u64 qh ∧ s7 = .int .u64 ql ∧ s8 = .int .u64 r ∧ s9 = .int .i64 k ∧ k ≤ 128 ∧ Fx.DInv N c k h l r qh ql
theorem or1 (a b : Nat) (ha : a < 18446744073709551616) (hb : b < 18446744073709551616) : bits .or .u64 (IntKind.u64.wrap ((a : Int) * 2)) ((b : Int) / 9223372036854775808) = ((2 * a % 18446744073709551616 + b / 9223372036854775808 : Nat) : Int) := by
  have e1 : IntKind.u64.wrap ((a : Int) * 2) = ((a % 9223372036854775808 * 2 ^ 1 : Nat) : Int) := by rw [wrapu]; omega
  have e2 : (b : Int) / 9223372036854775808 = ((b / 9223372036854775808 : Nat) : Int) := by omega
  rw [e1, e2, orN _ _ 1 (by omega) (by omega)]
  omega
theorem shl1 (a : Nat) : IntKind.u64.wrap ((a : Int) * 2) = ((2 * a % 18446744073709551616 : Nat) : Int) := by rw [wrapu]; omega
theorem or_one (a : Nat) : bits .or .u64 ((2 * a % 18446744073709551616 : Nat) : Int) 1 = ((2 * a % 18446744073709551616 + 1 : Nat) : Int) := by
  have h := orN (a % 9223372036854775808) 1 1 (by omega) (by decide)
  have e : a % 9223372036854775808 * 2 ^ 1 = 2 * a % 18446744073709551616 := by omega
  rw [e] at h
  exact h

theorem or1' (a b : Nat) (ha : a < 9223372036854775808) (hb : b < 18446744073709551616) : bits .or .u64 ((a : Int) * 2) ((b : Int) / 9223372036854775808) = ((2 * a + b / 9223372036854775808 : Nat) : Int) := by
  have h := or1 a b (by omega) hb
  rw [show IntKind.u64.wrap ((a : Int) * 2) = (a : Int) * 2 from by rw [wrapu]; omega] at h
  rw [h]; omega
theorem d_yes {N c k h l r qh ql : Nat} {x : Int} (H : Fx.DInv N c k h l r qh ql) (hN : N < 18446744073709551616 * 18446744073709551616) (h3 : 0 < c) (h4 : c < 18446744073709551616) (hk : k < 128)
    (hle : c ≤ 2 * r + h / 9223372036854775808) (hx : x = ((2 * r + h / 9223372036854775808 - c : Nat) : Int)) :
    DRel N c (.int .u64 (bits .or .u64 (IntKind.u64.wrap (↑h * 2)) (↑l / 9223372036854775808))) (.int .u64 (IntKind.u64.wrap (↑l * 2))) (.int .u64 (bits .or .u64 (IntKind.u64.wrap (↑qh * 2)) (↑ql / 9223372036854775808)))
      (.int .u64 (bits .or .u64 (IntKind.u64.wrap (↑ql * 2)) 1)) (.int .u64 x) (.int .i64 (↑k + 1)) := by
  rw [or1 h l H.hh H.hl, shl1 l, or1 qh ql H.hqh H.hql, shl1 ql, or_one ql, hx]
  exact ⟨k + 1, _, _, _, _, _, rfl, rfl, rfl, rfl, rfl, rfl, by omega, (Fx.d_step hN h3 hk H).1 hle⟩
theorem d_no {N c k h l r qh ql : Nat} {x : Int} (H : Fx.DInv N c k h l r qh ql) (hN : N < 18446744073709551616 * 18446744073709551616) (h3 : 0 < c) (hk : k < 128)
    (hle : ¬ c ≤ 2 * r + h / 9223372036854775808) (hx : x = ((2 * r + h / 9223372036854775808 : Nat) : Int)) :
    DRel N c (.int .u64 (bits .or .u64 (IntKind.u64.wrap (↑h * 2)) (↑l / 9223372036854775808))) (.int .u64 (IntKind.u64.wrap (↑l * 2))) (.int .u64 (bits .or .u64 (IntKind.u64.wrap (↑qh * 2)) (↑ql / 9223372036854775808)))
      (.int .u64 (IntKind.u64.wrap (↑ql * 2))) (.int .u64 x) (.int .i64 (↑k + 1)) := by
  rw [or1 h l H.hh H.hl, shl1 l, or1 qh ql H.hqh H.hql, shl1 ql, hx]
  exact ⟨k + 1, _, _, _, _, _, rfl, rfl, rfl, rfl, rfl, rfl, by omega, (Fx.d_step hN h3 hk H).2 hle⟩

set_option maxRecDepth 100000 in
set_option maxHeartbeats 1000000 in
theorem divide_any (hi lo c : Nat) (h1 : hi < 18446744073709551616) (h2 : lo < 18446744073709551616) (h3 : 0 < c) (h4 : c < 18446744073709551616) (w : World) :
    Calls Tryz.prog 112 #[.int .u64 hi, .int .u64 lo, .int .u64 c] w fun e w' =>
      e = .returned (.tuple #[.int .u64 (((hi * 18446744073709551616 + lo) / c / 18446744073709551616 : Nat) : Int), .int .u64 (((hi * 18446744073709551616 + lo) / c % 18446744073709551616 : Nat) : Int), .int .u64 (((hi * 18446744073709551616 + lo) % c : Nat) : Int)]) ∧ w = w' := by
  have hN : hi * 18446744073709551616 + lo < 18446744073709551616 * 18446744073709551616 := by omega
  have hst := Lib.hid (Fx.d_start h1 h2 rfl h3)
  have HN := Lib.hid hN
  have H1 := Lib.hid h1
  have H2 := Lib.hid h2
  have H4 := Lib.hid h4
  clear hN
  obtain ⟨N, hNe⟩ : ∃ N, hi * 18446744073709551616 + lo = N := ⟨_, rfl⟩
  rw [hNe] at hst HN
  rw [hNe]
  clear hNe h1 h2
  go_enter Tryz.func112, Tryz.ntmps112
  go_wp2
  go_loop [0, 1, 6, 7, 8, 9] (fun s0 s1 s6 s7 s8 s9 => DRel N c s0 s1 s6 s7 s8 s9) (fun _ _ _ _ _ s9 => 128 - (intOf s9).toNat)
  case atStart => exact ⟨0, hi, lo, 0, 0, 0, rfl, rfl, rfl, rfl, rfl, rfl, by omega, hst.out⟩
  case round =>
    obtain ⟨k, h, l, r, qh, ql, rfl, rfl, rfl, rfl, rfl, rfl, hk, H⟩ := hrel
    have HH := Lib.hid H
    have bh : (h : Int) ≤ 18446744073709551615 := by have := H.hh; omega
    have bl : (l : Int) ≤ 18446744073709551615 := by have := H.hl; omega
    have br : (r : Int) ≤ 18446744073709551615 := by have := Nat.lt_trans H.hr h4; omega
    have bqh : (qh : Int) ≤ 18446744073709551615 := by have := H.hqh; omega
    have bql : (ql : Int) ≤ 18446744073709551615 := by have := H.hql; omega
    clear H
    by_cases hlt : (k : Int) < 128
    · by_cases hr : 9223372036854775808 ≤ (r : Int)
      · have ht : ((r : Int) / 9223372036854775808 == 1) = true := beq_iff_eq.2 (by omega)
        go_wp2_with fail
        go_round
        case rel => exact d_yes HH.out HN.out h3 H4.out (by omega) (by omega) (by have hrc := HH.out.hr; rw [or1 _ _ (by omega) (by omega), wrapu]; omega)
        case measure => simp only [intOf]; omega
      · have ht : ((r : Int) / 9223372036854775808 == 1) = false := beq_eq_false_iff_ne.2 (by omega)
        have o := or1' r h (by omega) (by omega)
        by_cases hB : (c : Int) ≤ bits .or .u64 ((r : Int) * 2) ((h : Int) / 9223372036854775808)
        · have O := Lib.hid o
          clear o
          go_wp2_with fail
          go_round
          case rel => exact d_yes HH.out HN.out h3 H4.out (by omega) (by rw [O.out] at hB; omega) (by rw [O.out, wrapu]; rw [O.out] at hB; omega)
          case measure => simp only [intOf]; omega
        · have O := Lib.hid o
          clear o
          go_wp2_with fail
          go_round
          case rel => exact d_no HH.out HN.out h3 (by omega) (by rw [O.out] at hB; omega) O.out
          case measure => simp only [intOf]; omega
    · have hk' : k = 128 := by omega
      have hd := Lib.hid (Fx.d_done (by rw [← hk']; exact HH.out))
      clear hk'
      go_wp2_with fail
      go_ret3
      exact ⟨by rw [hd.out.1, hd.out.2.1, hd.out.2.2]; rfl, rfl⟩

end Go.Proofs.YtcmdpfdhmbpahaaGreat
