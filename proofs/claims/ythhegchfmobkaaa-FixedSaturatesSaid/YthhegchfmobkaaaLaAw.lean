/- Layer 1: the chapter's examples hold (awake returns true). -/
import Derived.Test.YthhegchfmobkaaaFxOps
import Derived.Test.YthhegchfmobkaaaFxRoot
namespace Go.Proofs.Ythhegchfmobkaaa
set_option linter.unusedSimpArgs false
set_option linter.unusedVariables false
open Go.RowKit
theorem sq99 : sqV 99 = 9 := by
  have h : (9 : Nat) = Fx.isq 99 := Fx.isq_eq (by decide) (by decide)
  show ((Fx.isq 99 : Nat) : Int) = 9
  rw [← h]; rfl
set_option maxRecDepth 100000 in
set_option maxHeartbeats 1000000 in
theorem awake_any (w : World) : Calls Try.prog 11 #[] w fun e w' => e = .returned (.bool true) ∧ ∃ n, w' = w.drewN n := by
  have H0 := Lib.hid (fun w => show Calls Try.prog 12 #[.int .i64 (-7), .int .i64 2] w fun e w' => e = .returned (.tuple #[.int .i64 (-4), .int .i64 0]) ∧ ∃ n, w' = w.drewN n from (xFloor (-7) 2 (⟨by decide, by decide⟩ : I64 (-7)) (⟨by decide, by decide⟩ : I64 (2)) w).mono fun e w' ⟨he, hw⟩ => ⟨he.trans (ret_tup2 (by decide) (by decide)), hw⟩)
  have H1 := Lib.hid (fun w => show Calls Try.prog 15 #[.int .i64 (-7), .int .i64 2] w fun e w' => e = .returned (.tuple #[.int .i64 (-3), .int .i64 0]) ∧ ∃ n, w' = w.drewN n from (xCeil (-7) 2 (⟨by decide, by decide⟩ : I64 (-7)) (⟨by decide, by decide⟩ : I64 (2)) w).mono fun e w' ⟨he, hw⟩ => ⟨he.trans (ret_tup2 (by decide) (by decide)), hw⟩)
  have H2 := Lib.hid (fun w => show Calls Try.prog 17 #[.int .i64 (-7), .int .i64 2] w fun e w' => e = .returned (.tuple #[.int .i64 (-3), .int .i64 0]) ∧ ∃ n, w' = w.drewN n from (xRound (-7) 2 (⟨by decide, by decide⟩ : I64 (-7)) (⟨by decide, by decide⟩ : I64 (2)) w).mono fun e w' ⟨he, hw⟩ => ⟨he.trans (ret_tup2 (by decide) (by decide)), hw⟩)
  have H3 := Lib.hid (fun w => show Calls Try.prog 19 #[.int .i64 (-7), .int .i64 5] w fun e w' => e = .returned (.tuple #[.int .i64 3, .int .i64 0]) ∧ w = w' from (xMod (-7) 5 (⟨by decide, by decide⟩ : I64 (-7)) (⟨by decide, by decide⟩ : I64 (5)) w).mono fun e w' ⟨he, hw⟩ => ⟨he.trans (ret_tup2 (by decide) (by decide)), hw⟩)
  have H4 := Lib.hid (fun w => show Calls Try.prog 21 #[.int .i64 1099511627776, .int .i64 1099511627776, .int .i64 1073741824] w fun e w' => e = .returned (.tuple #[.int .i64 1125899906842624, .int .i64 0]) ∧ ∃ n, w' = w.drewN n from (xMulDiv 1099511627776 1099511627776 1073741824 (⟨by decide, by decide⟩ : I64 (1099511627776)) (⟨by decide, by decide⟩ : I64 (1099511627776)) (⟨by decide, by decide⟩ : I64 (1073741824)) w).mono fun e w' ⟨he, hw⟩ => ⟨he.trans (ret_tup2 (by decide) (by decide)), hw⟩)
  have H5 := Lib.hid (fun w => show Calls Try.prog 23 #[.int .i64 7, .int .i64 5, .int .i64 (-2)] w fun e w' => e = .returned (.tuple #[.int .i64 (-17), .int .i64 0]) ∧ ∃ n, w' = w.drewN n from (xMulDivUp 7 5 (-2) (⟨by decide, by decide⟩ : I64 (7)) (⟨by decide, by decide⟩ : I64 (5)) (⟨by decide, by decide⟩ : I64 (-2)) w).mono fun e w' ⟨he, hw⟩ => ⟨he.trans (ret_tup2 (by decide) (by decide)), hw⟩)
  have H6 := Lib.hid (fun w => show Calls Try.prog 25 #[.int .i64 5, .int .i64 1, .int .i64 2] w fun e w' => e = .returned (.tuple #[.int .i64 3, .int .i64 0]) ∧ ∃ n, w' = w.drewN n from (xMulDivRound 5 1 2 (⟨by decide, by decide⟩ : I64 (5)) (⟨by decide, by decide⟩ : I64 (1)) (⟨by decide, by decide⟩ : I64 (2)) w).mono fun e w' ⟨he, hw⟩ => ⟨he.trans (ret_tup2 (by decide) (by decide)), hw⟩)
  have H7 := Lib.hid (fun w => show Calls Try.prog 37 #[.int .i64 99] w fun e w' => e = .returned (.int .i64 9) ∧ w = w' from (xSqrt 99 (by decide) w).mono fun e w' ⟨he, hw⟩ => ⟨he.trans (ret_int sq99), hw⟩)
  have H8 := Lib.hid (fun w => show Calls Try.prog 38 #[.int .i64 99] w fun e w' => e = .returned (.int .i64 10) ∧ w = w' from (xSqrtUp 99 (by decide) w).mono fun e w' ⟨he, hw⟩ => ⟨he.trans (ret_int (by unfold squV; rw [sq99]; decide)), hw⟩)
  have H9 := Lib.hid (fun w => show Calls Try.prog 27 #[.int .i64 9223372036854775807, .int .i64 1] w fun e w' => e = .returned (.int .i64 9223372036854775807) ∧ w = w' from (xAdd 9223372036854775807 1 (⟨by decide, by decide⟩ : I64 (9223372036854775807)) one_I64 w).mono fun e w' ⟨he, hw⟩ => ⟨he.trans (ret_int (by decide)), hw⟩)
  have H10 := Lib.hid (fun w => show Calls Try.prog 35 #[.int .i64 5, .int .i64 7, .int .i64 3] w fun e w' => e = .returned (.int .i64 7) ∧ w = w' from (xClamp 5 7 3 w).mono fun e w' ⟨he, hw⟩ => ⟨he.trans (ret_int (by decide)), hw⟩)
  go_enter Try.func11, Try.ntmps11
  go_wp2_with fail
  refine (H0.out _).mono ?_; rintro e w' ⟨rfl, n, rfl⟩
  go_wp2_with fail
  refine (H1.out _).mono ?_; rintro e w' ⟨rfl, n, rfl⟩
  go_wp2_with fail
  refine (H2.out _).mono ?_; rintro e w' ⟨rfl, n, rfl⟩
  go_wp2_with fail
  refine (H3.out _).mono ?_; rintro e w' ⟨rfl, rfl⟩
  go_wp2_with fail
  refine (H4.out _).mono ?_; rintro e w' ⟨rfl, n, rfl⟩
  go_wp2_with fail
  refine (H5.out _).mono ?_; rintro e w' ⟨rfl, n, rfl⟩
  go_wp2_with fail
  refine (H6.out _).mono ?_; rintro e w' ⟨rfl, n, rfl⟩
  go_wp2_with fail
  refine (H7.out _).mono ?_; rintro e w' ⟨rfl, rfl⟩
  go_wp2_with fail
  refine (H8.out _).mono ?_; rintro e w' ⟨rfl, rfl⟩
  go_wp2_with fail
  refine (H9.out _).mono ?_; rintro e w' ⟨rfl, rfl⟩
  go_wp2_with fail
  refine (H10.out _).mono ?_; rintro e w' ⟨rfl, rfl⟩
  go_wp2_with fail
  go_ret
  exact ⟨rfl, _, rfl⟩
end Go.Proofs.Ythhegchfmobkaaa
