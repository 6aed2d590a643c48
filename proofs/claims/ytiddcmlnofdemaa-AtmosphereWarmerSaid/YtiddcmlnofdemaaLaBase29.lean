/- Layer 29: the chapter's examples hold (awake returns true). -/
import Derived.Test.YtiddcmlnofdemaaAtTRS
import Derived.Test.YtiddcmlnofdemaaAtL
namespace Go.Proofs.Ytiddcmlnofdemaa
set_option linter.unusedSimpArgs false
set_option linter.unusedVariables false
open Go.RowKit

theorem level_low (p : Int) (hp : I64 p) (h : p < 70800) (w : World) : Calls Try.prog 12 #[.int .i64 p] w fun e w' => e = .returned (.tuple #[.int .i64 0, .int .i64 2]) ∧ Below w.heap.size w w' :=
  (level_any p hp w).mono fun e w' ⟨h1, h2, hB⟩ => ⟨h1 h, hB⟩
theorem level_at (p L : Int) (hp : I64 p) (h : ¬ p < 70800) (hL : At.LevP p L) (w : World) : Calls Try.prog 12 #[.int .i64 p] w fun e w' => e = .returned (.tuple #[.int .i64 L, .int .i64 0]) ∧ Below w.heap.size w w' :=
  (level_any p hp w).mono fun e w' ⟨h1, h2, hB⟩ => by
    obtain ⟨K, he, hK⟩ := h2 h
    rw [At.lev_unique hL hK]
    exact ⟨he, hB⟩
theorem rlevel_low (p : Int) (hp : I64 p) (h : p < 70800) (w : World) : Calls Try.prog 13 #[.int .i64 p] w fun e w' => e = .returned (.tuple #[.int .i64 0, .int .i64 2]) ∧ Below w.heap.size w w' :=
  (rlevel_any p hp w).mono fun e w' ⟨h1, h2, hB⟩ => ⟨h1 h, hB⟩
theorem rlevel_at (p L : Int) (hp : I64 p) (h : ¬ p < 70800) (hL : At.LevP p L) (w : World) : Calls Try.prog 13 #[.int .i64 p] w fun e w' => e = .returned (.tuple #[.int .i64 L, .int .i64 0]) ∧ Below w.heap.size w w' :=
  (rlevel_any p hp w).mono fun e w' ⟨h1, h2, hB⟩ => by
    obtain ⟨K, he, hK⟩ := h2 h
    rw [At.lev_unique hL hK]
    exact ⟨he, hB⟩
/-- there is an altitude of every pressure in range -/
theorem lev_down (p : Int) : ∀ k : Nat, k ≤ 6200000 → At.vP (-200000 + (k : Int)) ≤ p → ∃ L, At.LevP p L
  | 0, _, h => ⟨-200000, by omega, by omega, by simpa using h, .inl rfl⟩
  | k + 1, hk, h => by
    by_cases h2 : At.vP (-200000 + (k : Int)) ≤ p
    · exact lev_down p k (by omega) h2
    · refine ⟨-200000 + ((k + 1 : Nat) : Int), by omega, by omega, h, .inr ?_⟩
      rw [show -200000 + ((k + 1 : Nat) : Int) - 1 = -200000 + (k : Int) from by omega]
      omega
theorem lev_exists (p : Int) (h : 70800 ≤ p) : ∃ L, At.LevP p L := by
  have e : At.vP (-200000 + ((6200000 : Nat) : Int)) = 70800 := by decide
  exact lev_down p 6200000 (Nat.le_refl _) (by rw [e]; exact h)
theorem cvalB {F : FuncId} {args : Array Value} {w : World} {X Y V E : Int} (h : Calls Try.prog F args w fun e w' => e = .returned (.tuple #[.int .i64 X, .int .i64 Y]) ∧ Below w.heap.size w w') (hx : X = V) (hy : Y = E) :
    Calls Try.prog F args w fun e w' => e = .returned (.tuple #[.int .i64 V, .int .i64 E]) ∧ Below w.heap.size w w' := by subst hx hy; exact h
theorem ok_te {a d : Int} (h1 : -200000 ≤ a ∧ a ≤ 6000000) (h2 : -4000 ≤ d ∧ d ≤ 4000) : tE a d = 0 := tE_0 h1 h2
theorem ex_sound : sdV 0 0 = 10583 := by
  unfold sdV
  rw [if_pos (ok_te (by decide) (by decide))]
  have e : (388734 * At.tempV 0 0 / 100).toNat = 112013702 := by decide
  unfold At.soundV
  rw [e]
  have h : (10583 : Nat) = Fx.isq 112013702 := Fx.isq_eq (by decide) (by decide)
  rw [← h]; rfl
theorem bel_trans {w w1 w2 : World} (h1 : Below w.heap.size w w1) (h2 : Below w1.heap.size w1 w2) : Below w.heap.size w w2 := h1.trans (h2.mono h1.size)

set_option maxRecDepth 100000 in
set_option maxHeartbeats 2000000 in
theorem awake_any (w : World) : Calls Try.prog 9 #[] w fun e w' => e = .returned (.bool true) ∧ Below w.heap.size w w' := by
  have H0 := Lib.hid (fun w => cvalB (pressure_any 250000 w) (show presV 250000 = 916000 by decide) (show presE 250000 = 0 by decide))
  have H1 := Lib.hid (fun w => level_at 1000000 (-2) ⟨by decide, by decide⟩ (by decide) ⟨by decide, by decide, by decide, .inr (by decide)⟩ w)
  have H2 := Lib.hid (fun w => level_at 2000000 (-200000) ⟨by decide, by decide⟩ (by decide) ⟨by decide, by decide, by decide, .inl rfl⟩ w)
  have H3 := Lib.hid (fun w => level_low 70799 ⟨by decide, by decide⟩ (by decide) w)
  have H4 := Lib.hid (fun w => cvalB (aTemperature 4000000 (-100) w) (show tmV 4000000 (-100) = 21565 by unfold tmV; rw [if_pos (ok_te (by decide) (by decide))]; decide) (ok_te (by decide) (by decide)))
  have H5 := Lib.hid (fun w => cvalB (aSound 0 0 w) ex_sound (ok_te (by decide) (by decide)))
  have H6 := Lib.hid (fun w => cvalB (aRatio 250000 0 w) (show rtV 250000 0 = 1038650 by unfold rtV; rw [if_pos (ok_te (by decide) (by decide))]; decide) (ok_te (by decide) (by decide)))
  go_enter Try.func9, Try.ntmps9
  go_wp2_with fail
  refine (H0.out _).mono ?_; rintro e w1 ⟨rfl, b0⟩
  have B0 := Lib.hid b0
  clear b0
  go_wp2_with fail
  refine (H1.out _).mono ?_; rintro e w2 ⟨rfl, b1⟩
  have B1 := Lib.hid b1
  clear b1
  go_wp2_with fail
  refine (H2.out _).mono ?_; rintro e w3 ⟨rfl, b2⟩
  have B2 := Lib.hid b2
  clear b2
  go_wp2_with fail
  refine (H3.out _).mono ?_; rintro e w4 ⟨rfl, b3⟩
  have B3 := Lib.hid b3
  clear b3
  go_wp2_with fail
  refine (H4.out _).mono ?_; rintro e w5 ⟨rfl, b4⟩
  have B4 := Lib.hid b4
  clear b4
  go_wp2_with fail
  refine (H5.out _).mono ?_; rintro e w6 ⟨rfl, b5⟩
  have B5 := Lib.hid b5
  clear b5
  go_wp2_with fail
  refine (H6.out _).mono ?_; rintro e w7 ⟨rfl, b6⟩
  have B6 := Lib.hid b6
  clear b6
  go_wp2_with fail
  go_ret
  exact ⟨rfl, bel_trans (bel_trans (bel_trans (bel_trans (bel_trans (bel_trans B0.out B1.out) B2.out) B3.out) B4.out) B5.out) B6.out⟩
end Go.Proofs.Ytiddcmlnofdemaa
