/- Layer 7: sines and cosines of all angles. -/
import Derived.Test.YtkomooeohlcnaaaTrB
namespace Go.Proofs.Ytkomooeohlcnaaa
set_option linter.unusedSimpArgs false
set_option linter.unusedVariables false
open Go.RowKit
open Tr
set_option maxRecDepth 100000 in
set_option maxHeartbeats 2000000 in
theorem xQuart (a : Int) (h0 : 0 ≤ a) (h1 : a ≤ 32400000) (w : World) : Calls Try.prog 57 #[.int .i64 a] w fun e w' => e = .returned (.int .i64 (quV a)) ∧ w = w' := by
  by_cases h : a ≤ 16200000
  · have hv := Lib.hid (show quV a = sinS a from if_pos h)
    have HS := Lib.hid (xSinS a h0 h)
    go_enter Try.func57, Try.ntmps57
    go_wp2_with fail
    refine (HS.out _).mono ?_; rintro e w1 ⟨rfl, rfl⟩
    go_wp2_with fail
    go_ret
    exact ⟨ret_int (by rw [hv.out]), rfl⟩
  · have hv := Lib.hid (show quV a = cosS (32400000 - a) from if_neg h)
    have HS := Lib.hid (xCosS (32400000 - a) (by omega) (by omega))
    go_enter Try.func57, Try.ntmps57
    go_wp2_with fail
    refine (HS.out _).mono ?_; rintro e w1 ⟨rfl, rfl⟩
    go_wp2_with fail
    go_ret
    exact ⟨ret_int (by rw [hv.out]), rfl⟩
set_option maxRecDepth 100000 in
set_option maxHeartbeats 2000000 in
theorem xSin (a : Int) (ha : I64 a) (w : World) : Calls Try.prog 32 #[.int .i64 a] w fun e w' => e = .returned (.int .i64 (sinV a)) ∧ w = w' := by
  have HN := Lib.hid (xNorm a ha)
  have hb := nrm_bd a
  have hv := Lib.hid (show sinV a = sinB (nrm a) from rfl)
  generalize nrm a = b at *
  obtain ⟨b0, b1⟩ := hb
  clear ha
  by_cases h1 : b ≤ 32400000
  · have HV := Lib.hid (hv.out.trans (if_pos h1))
    have HQ := Lib.hid (xQuart b b0 h1)
    go_enter Try.func32, Try.ntmps32
    go_wp2_with fail
    refine (HN.out _).mono ?_; rintro e w1 ⟨rfl, rfl⟩
    go_wp2_with fail
    refine (HQ.out _).mono ?_; rintro e w1 ⟨rfl, rfl⟩
    go_wp2_with fail
    go_ret
    exact ⟨ret_int (by rw [HV.out]), rfl⟩
  by_cases h2 : b ≤ 64800000
  · have HV := Lib.hid (hv.out.trans ((if_neg h1).trans (if_pos h2)))
    have HQ := Lib.hid (xQuart (64800000 - b) (by omega) (by omega))
    go_enter Try.func32, Try.ntmps32
    go_wp2_with fail
    refine (HN.out _).mono ?_; rintro e w1 ⟨rfl, rfl⟩
    go_wp2_with fail
    refine (HQ.out _).mono ?_; rintro e w1 ⟨rfl, rfl⟩
    go_wp2_with fail
    go_ret
    exact ⟨ret_int (by rw [HV.out]), rfl⟩
  by_cases h3 : b ≤ 97200000
  · have HV := Lib.hid (hv.out.trans ((if_neg h1).trans ((if_neg h2).trans (if_pos h3))))
    have HQ := Lib.hid (xQuart (b - 64800000) (by omega) (by omega))
    have qb := quV_bd (a := b - 64800000) (by omega) (by omega)
    generalize quV (b - 64800000) = V at *
    obtain ⟨q0, q1⟩ := qb
    go_enter Try.func32, Try.ntmps32
    go_wp2_with fail
    refine (HN.out _).mono ?_; rintro e w1 ⟨rfl, rfl⟩
    go_wp2_with fail
    refine (HQ.out _).mono ?_; rintro e w1 ⟨rfl, rfl⟩
    go_wp2_with fail
    go_ret
    exact ⟨ret_int (by rw [HV.out]), rfl⟩
  · have HV := Lib.hid (hv.out.trans ((if_neg h1).trans ((if_neg h2).trans (if_neg h3))))
    have HQ := Lib.hid (xQuart (129600000 - b) (by omega) (by omega))
    have qb := quV_bd (a := 129600000 - b) (by omega) (by omega)
    generalize quV (129600000 - b) = V at *
    obtain ⟨q0, q1⟩ := qb
    go_enter Try.func32, Try.ntmps32
    go_wp2_with fail
    refine (HN.out _).mono ?_; rintro e w1 ⟨rfl, rfl⟩
    go_wp2_with fail
    refine (HQ.out _).mono ?_; rintro e w1 ⟨rfl, rfl⟩
    go_wp2_with fail
    go_ret
    exact ⟨ret_int (by rw [HV.out]), rfl⟩
set_option maxRecDepth 100000 in
set_option maxHeartbeats 2000000 in
theorem xCos (a : Int) (ha : I64 a) (w : World) : Calls Try.prog 33 #[.int .i64 a] w fun e w' => e = .returned (.int .i64 (cosV a)) ∧ w = w' := by
  have HN := Lib.hid (xTurn a 32400000 ha ⟨by decide, by decide⟩)
  have hb : I64 (turnV a 32400000) := nrm_I64 _
  have HS := Lib.hid (xSin (turnV a 32400000) hb)
  have hv := Lib.hid (show cosV a = sinV (turnV a 32400000) by unfold cosV turnV nrm; rfl)
  generalize turnV a 32400000 = b at *
  obtain ⟨b0, b1⟩ := hb
  clear ha
  go_enter Try.func33, Try.ntmps33
  go_wp2_with fail
  refine (HN.out _).mono ?_; rintro e w1 ⟨rfl, rfl⟩
  go_wp2_with fail
  refine (HS.out _).mono ?_; rintro e w1 ⟨rfl, rfl⟩
  go_wp2_with fail
  go_ret
  exact ⟨ret_int (by rw [hv.out]), rfl⟩
end Go.Proofs.Ytkomooeohlcnaaa
