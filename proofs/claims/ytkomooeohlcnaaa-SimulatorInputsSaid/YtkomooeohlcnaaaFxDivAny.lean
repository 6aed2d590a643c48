/- math/bits.Div64 at every dividend and divisor that it takes: the quotient and the rest of hi * 2^64 + lo by y, where hi < y. The world: at most answers have been drawn. -/
import Derived.Test.YtkomooeohlcnaaaFxDiv
namespace Go.Proofs.Ytkomooeohlcnaaa
set_option linter.unusedSimpArgs false
set_option linter.unusedVariables false
open Go.RowKit

theorem wrapN (a : Nat) (ha : a < 18446744073709551616) : IntKind.u64.wrap (a : Int) = (a : Int) := by rw [wrapu]; omega

/-- a difference that wraps on its way -/
theorem wrap_diff (A D P R : Nat) (h : A * 4294967296 + D = P + R) (hR : R < 18446744073709551616) :
    IntKind.u64.wrap (IntKind.u64.wrap (IntKind.u64.wrap ((A : Int) * 4294967296) + (D : Int)) - IntKind.u64.wrap ((P : Nat) : Int)) = (R : Int) := by
  simp only [wrapu]
  omega

theorem mod_lt_W {a Z : Nat} (h : a % 18446744073709551616 = Z) : Z < 18446744073709551616 := by omega
theorem split32 (Z : Nat) : Z / 4294967296 * 4294967296 + Z % 4294967296 = Z := by omega

/-- one of the two steps -/
theorem d64_step (Y u d : Nat) (h1 : 9223372036854775808 ≤ Y) (h2 : Y < 18446744073709551616) (hu : u < Y) (hd : d < 4294967296) :
    ∃ g k Q R : Nat, u / (Y / 4294967296) = g ∧ u = g * (Y / 4294967296) + k ∧ k < 4294967296 ∧ Fx.KInv u (Y / 4294967296) (Y % 4294967296) d g k ∧ g ≤ 4294967297 ∧
      (u * 4294967296 + d) / (Y / 4294967296 * 4294967296 + Y % 4294967296) = Q ∧ Q < 4294967296 ∧ R < Y ∧ u * 4294967296 + d = Q * Y + R := by
  have b1 : 2147483648 ≤ Y / 4294967296 := by omega
  have b1' : Y / 4294967296 < 4294967296 := by omega
  have b0 : Y % 4294967296 < 4294967296 := by omega
  have hs := split32 Y
  have hK := Fx.k_start (u := u) b1 b1' b0 hd
  have hG := Fx.k_small (u := u) b1 b0 (by rw [hs]; exact hu)
  have e := Nat.div_add_mod (u * 4294967296 + d) Y
  have m := Nat.mod_lt (u * 4294967296 + d) (show 0 < Y by omega)
  have q : (u * 4294967296 + d) / Y < 4294967296 := by rw [Nat.div_lt_iff_lt_mul (by omega)]; omega
  refine ⟨_, u % (Y / 4294967296), _, _, rfl, hK.sum.symm, hK.rh_lt, hK, hG, rfl, ?_, m, ?_⟩
  · rw [hs]; exact q
  · rw [hs, Nat.mul_comm _ Y]; exact e.symm

theorem eU_of (hi lo s u : Nat) (hs : s ≤ 63) (p3 : lo < 18446744073709551616) (hu : u < 18446744073709551616) (hue : hi * 2 ^ s + lo / 2 ^ (64 - s) = u) :
    bits .or .u64 (IntKind.u64.wrap (↑hi * 2 ^ s)) (↑lo / 2 ^ (64 - s)) = (u : Int) := by
  have hA : lo / 2 ^ (64 - s) < 2 ^ s := by
    rw [Nat.div_lt_iff_lt_mul (Nat.two_pow_pos _), Nat.mul_comm, Fx.pow64 hs]; exact p3
  have c1 : (hi : Int) * 2 ^ s = ((hi * 2 ^ s : Nat) : Int) := by simp
  have c2 : (lo : Int) / 2 ^ (64 - s) = ((lo / 2 ^ (64 - s) : Nat) : Int) := by simp
  have h3 := Nat.le_add_right (hi * 2 ^ s) (lo / 2 ^ (64 - s))
  rw [hue] at h3
  rw [c1, c2, wrapN _ (Nat.lt_of_le_of_lt h3 hu), orN _ _ _ (by rw [hue]; exact hu) hA, hue]
theorem eY_of (y s Y : Nat) (h : Y < 18446744073709551616) (hYe : y * 2 ^ s = Y) : IntKind.u64.wrap (↑y * 2 ^ s) = (Y : Int) := by
  have c1 : (y : Int) * 2 ^ s = ((y * 2 ^ s : Nat) : Int) := by simp
  rw [c1, hYe, wrapN _ h]
theorem eZ_of (lo s Z : Nat) (hZe : lo * 2 ^ s % 18446744073709551616 = Z) : IntKind.u64.wrap (↑lo * 2 ^ s) = (Z : Int) := by
  have c1 : (lo : Int) * 2 ^ s = ((lo * 2 ^ s : Nat) : Int) := by simp
  rw [c1, wrapu, ← hZe]
  omega
theorem eK_of (u P k : Nat) (h : u = P + k) (hk : k < 4294967296) : IntKind.u64.wrap (↑u - IntKind.u64.wrap ((P : Nat) : Int)) = (k : Int) := by
  rw [wrapu, wrapu]
  omega
theorem cast_div (a b c : Nat) (h : a / b = c) : (a : Int) / (b : Int) = (c : Int) := by rw [← h]; simp
theorem cast_div32 (a : Nat) : (a : Int) / 4294967296 = ((a / 4294967296 : Nat) : Int) := by omega

theorem div64_big (hi lo y : Nat) (p1 : hi < y) (p2 : y < 18446744073709551616) (p3 : lo < 18446744073709551616) (p4 : 0 < hi) (w : World) :
    Calls Try.prog 80 #[.int .u64 hi, .int .u64 lo, .int .u64 y] w fun e w' => e = .returned (.tuple #[.int .u64 (((hi * 18446744073709551616 + lo) / y : Nat) : Int), .int .u64 (((hi * 18446744073709551616 + lo) % y : Nat) : Int)]) ∧ w' = w := by
  have hy : 0 < y := Nat.lt_of_le_of_lt (Nat.zero_le _) p1
  obtain ⟨s, hs, hY1, hY2, lz⟩ := lz_any y hy p2
  have htop := Fx.d64_top p1 p3 hs
  have hsum := Lib.hid (Fx.d64_sum (hi := hi) (lo := lo) hs)
  obtain ⟨Y, hYe⟩ : ∃ Y, y * 2 ^ s = Y := ⟨_, rfl⟩
  obtain ⟨Z, hZe⟩ : ∃ Z, lo * 2 ^ s % 18446744073709551616 = Z := ⟨_, rfl⟩
  obtain ⟨u, hue⟩ : ∃ u, hi * 2 ^ s + lo / 2 ^ (64 - s) = u := ⟨_, rfl⟩
  rw [hYe] at hY1 hY2
  rw [hYe, hue] at htop
  have hsum' := hsum.out
  rw [hue, hZe] at hsum'
  have hZ := mod_lt_W hZe
  have hu64 : u < 18446744073709551616 := Nat.lt_trans htop hY2
  obtain ⟨g1, k1, Q1, R1, a1, a2, a3, a4, a5, a6, a7, a8, a9⟩ := d64_step Y u (Z / 4294967296) hY1 hY2 htop (Nat.div_lt_of_lt_mul hZ)
  obtain ⟨g0, k0, Q0, R0, c1, c2, c3, c4, c5, c6, c7, c8, c9⟩ := d64_step Y R1 (Z % 4294967296) hY1 hY2 a8 (Nat.mod_lt _ (by decide))
  have hend := Fx.d64_end hy hYe.symm hsum' (split32 Z).symm a9 c9 c8
  rw [hend.1, hend.2]
  have hsp := split32 Y
  have hR1 : R1 < 18446744073709551616 := Nat.lt_trans a8 hY2
  have hR0 : R0 < 18446744073709551616 := Nat.lt_trans c8 hY2
  refine div64_core hi lo y s Y (Y / 4294967296) (Y % 4294967296) u Z (Z / 4294967296) (Z % 4294967296) g1 k1 Q1 R1 g0 k0 Q0 R0
    p1 p2 p3 p4 hs w lz (eY_of _ _ _ hY2 hYe) (cast_div32 _) (maskN _ hY2) (eU_of _ _ _ _ hs p3 hu64 hue) (eZ_of _ _ _ hZe) (cast_div32 _) (maskN _ hZ) (cast_div _ _ _ a1) ?_
    ?_ ?_ ?_ ?_ ?_ hu64 (by rw [hsp]; exact htop) a4 a5 a6 ?_ (cast_div _ _ _ c1) ?_ c4 c5 (by rw [hsp]; exact a8) hR1 c6 a7 c7 ?_
  · rw [← Int.natCast_mul]; exact eK_of _ _ _ a2 a3
  · clear hsum hsum' lz hue hend hZe hYe a9 c9 a2 c2 a4 c4; omega
  · clear hsum hsum' lz hue hend hZe hYe a9 c9 a2 c2 a4 c4; omega
  · exact Nat.mod_lt _ (by decide)
  · exact Nat.div_lt_of_lt_mul hZ
  · exact Nat.mod_lt _ (by decide)
  · rw [← Int.natCast_mul]; exact wrap_diff _ _ _ _ a9 hR1
  · rw [← Int.natCast_mul]; exact eK_of _ _ _ c2 c3
  · rw [← Int.natCast_mul]; exact wrap_diff _ _ _ _ c9 hR0

set_option maxHeartbeats 400000 in
theorem div64_small (lo y : Nat) (p1 : 0 < y) (p2 : y < 18446744073709551616) (p3 : lo < 18446744073709551616) (w : World) :
    Calls Try.prog 80 #[.int .u64 0, .int .u64 lo, .int .u64 y] w fun e w' => e = .returned (.tuple #[.int .u64 ((lo / y : Nat) : Int), .int .u64 ((lo % y : Nat) : Int)]) ∧ ∃ n, w' = w.drewN n := by
  have hy : ((y : Int) == 0) = false := by rw [beq_eq_false_iff_ne]; omega
  have hy2 : ¬ (y : Int) ≤ 0 := by omega
  go_enter Try.func80, Try.ntmps80
  go_wp2
  go_quiet (fail)
  have hq : IntKind.u64.wrap ((lo : Int) / (y : Int)) = ((lo / y : Nat) : Int) := by
    have h2 : lo / y ≤ lo := Nat.div_le_self _ _
    rw [← Int.natCast_ediv, wrapN _ (by omega)]
  go_wp2
  go_ret2
  refine ⟨?_, _, rfl⟩
  show Ending.returned (.tuple #[.int .u64 _, .int .u64 _]) = _
  rw [hq, ← Int.natCast_emod]

theorem div64_any (hi lo y : Nat) (p1 : hi < y) (p2 : y < 18446744073709551616) (p3 : lo < 18446744073709551616) (w : World) :
    Calls Try.prog 80 #[.int .u64 hi, .int .u64 lo, .int .u64 y] w fun e w' => e = .returned (.tuple #[.int .u64 (((hi * 18446744073709551616 + lo) / y : Nat) : Int), .int .u64 (((hi * 18446744073709551616 + lo) % y : Nat) : Int)]) ∧ ∃ n, w' = w.drewN n := by
  rcases Nat.eq_zero_or_pos hi with h | h
  · subst h
    have := div64_small lo y p1 p2 p3 w
    rw [Nat.zero_mul, Nat.zero_add]
    exact this
  · exact (div64_big hi lo y p1 p2 p3 h w).mono fun e w' ⟨he, hw⟩ => ⟨he, 0, hw⟩
end Go.Proofs.Ytkomooeohlcnaaa
