/- Layer 7: the series, of the program and of the reference. -/
import Derived.Test.YtkomooeohlcnaaaTrA
namespace Go.Proofs.Ytkomooeohlcnaaa
set_option linter.unusedSimpArgs false
set_option linter.unusedVariables false
open Go.RowKit
open Tr
/-- the rounds of a series -/
def ser (u : Int) (ns : List Int) : Nat → Int
  | 0 => 2147483648
  | k + 1 => stp u (ser u ns k) (ns.getD k 2)
theorem ser_bd {u : Int} {ns : List Int} (hu : 0 ≤ u) (hU : u ≤ 2147483648) (hn : ∀ k, 2 ≤ ns.getD k 2) : ∀ k, 0 ≤ ser u ns k ∧ ser u ns k ≤ 2147483648
  | 0 => ⟨(by decide : (0 : Int) ≤ 2147483648), (by decide : (2147483648 : Int) ≤ 2147483648)⟩
  | k + 1 => stp_bd hu hU (ser_bd hu hU hn k).1 (ser_bd hu hU hn k).2 (hn k)
def sinN : List Int := [110, 72, 42, 20, 6]
def cosN : List Int := [90, 56, 30, 12, 2]
theorem sinN_ge : ∀ k, 2 ≤ sinN.getD k 2
  | 0 => by decide
  | 1 => by decide
  | 2 => by decide
  | 3 => by decide
  | 4 => by decide
  | k + 5 => by simp [sinN]
theorem cosN_ge : ∀ k, 2 ≤ cosN.getD k 2
  | 0 => by decide
  | 1 => by decide
  | 2 => by decide
  | 3 => by decide
  | 4 => by decide
  | k + 5 => by simp [cosN]
theorem sinS_ser (a : Int) : sinS a = (mul (tV a) (ser (uV a) sinN 5) + 1) / 2 := rfl
theorem cosS_ser (a : Int) : cosS a = (ser (uV a) cosN 5 + 1) / 2 := rfl
theorem ser_one (u n : Int) : 2147483648 - (u + n / 2) / n = stp u 2147483648 n := by unfold stp; rw [mul_unit]
set_option maxRecDepth 100000 in
set_option maxHeartbeats 2000000 in
theorem xSinS (a : Int) (h0 : 0 ≤ a) (h1 : a ≤ 16200000) (w : World) : Calls Try.prog 82 #[.int .i64 a] w fun e w' => e = .returned (.int .i64 (sinS a)) ∧ w = w' := by
  have tb := tV_bd h0 h1
  have ub := uV_bd h0 h1
  have hv := Lib.hid (sinS_ser a)
  have HT := Lib.hid (show (a * 6746518852 + 32400000) / 64800000 = tV a from rfl)
  have HM := Lib.hid (xTmul (tV a) (tV a) ⟨by omega, by omega⟩ ⟨by omega, by omega⟩)
  rw [show mul (tV a) (tV a) = uV a from rfl] at HM
  have HS := Lib.hid (ser_bd (u := uV a) (ns := sinN) ub.1 (by omega) sinN_ge)
  have HU := Lib.hid (fun n => ser_one (uV a) n)
  generalize uV a = u at *
  generalize tV a = T at *
  have HXM := Lib.hid (fun y (hy : 0 ≤ y ∧ y ≤ 2147483648) => xTmul u y ⟨ub.1, by omega⟩ hy)
  have HXT := Lib.hid (fun y (hy : 0 ≤ y ∧ y ≤ 2147483648) => xTmul T y ⟨tb.1, by omega⟩ hy)
  obtain ⟨t0, t1⟩ := tb
  obtain ⟨u0, u1⟩ := ub
  have i0 : ∀ w, (Instr.index 143 (.agg #[.int .i64 110, .int .i64 72, .int .i64 42, .int .i64 20, .int .i64 6]) (.int .i64 0)).run Try.prog w = .ok (.int .i64 110) w := fun _ => by kernel_rfl
  have I0 := Lib.hid i0
  clear i0
  have i1 : ∀ w, (Instr.index 143 (.agg #[.int .i64 110, .int .i64 72, .int .i64 42, .int .i64 20, .int .i64 6]) (.int .i64 1)).run Try.prog w = .ok (.int .i64 72) w := fun _ => by kernel_rfl
  have I1 := Lib.hid i1
  clear i1
  have i2 : ∀ w, (Instr.index 143 (.agg #[.int .i64 110, .int .i64 72, .int .i64 42, .int .i64 20, .int .i64 6]) (.int .i64 2)).run Try.prog w = .ok (.int .i64 42) w := fun _ => by kernel_rfl
  have I2 := Lib.hid i2
  clear i2
  have i3 : ∀ w, (Instr.index 143 (.agg #[.int .i64 110, .int .i64 72, .int .i64 42, .int .i64 20, .int .i64 6]) (.int .i64 3)).run Try.prog w = .ok (.int .i64 20) w := fun _ => by kernel_rfl
  have I3 := Lib.hid i3
  clear i3
  have i4 : ∀ w, (Instr.index 143 (.agg #[.int .i64 110, .int .i64 72, .int .i64 42, .int .i64 20, .int .i64 6]) (.int .i64 4)).run Try.prog w = .ok (.int .i64 6) w := fun _ => by kernel_rfl
  have I4 := Lib.hid i4
  clear i4
  go_enter Try.func82, Try.ntmps82
  go_wp2_with fail
  rw [HT.out]
  refine (HM.out _).mono ?_; rintro e w1 ⟨rfl, rfl⟩
  go_wp2_with fail
  go_loop [5, 17] (fun r i => ∃ k : Nat, k ≤ 5 ∧ i = .int .i64 k ∧ r = .int .i64 (ser u sinN k)) (fun _ i => 5 - (intOf i).toNat)
  case atStart => exact ⟨0, by omega, rfl, rfl⟩
  case round =>
    obtain ⟨k, hk, rfl, rfl⟩ := hrel
    rcases (show k = 0 ∨ k = 1 ∨ k = 2 ∨ k = 3 ∨ k = 4 ∨ k = 5 by omega) with rfl | rfl | rfl | rfl | rfl | rfl
    · have i0 := I0.out
      go_wp2_with fail
      refine (xTdiv u 110 ⟨u0, by omega⟩ ⟨by decide, by decide⟩ _).mono ?_; rintro e w2 ⟨rfl, rfl⟩
      have hb := HS.out 1
      have HV := Lib.hid (show 2147483648 - (u + 110 / 2) / 110 = ser u sinN 1 from HU.out 110)
      have q := half_le (m := u) (n := 110) u0 (by decide)
      obtain ⟨q0, q1⟩ := q
      obtain ⟨V, hV⟩ : ∃ V, (u + 110 / 2) / 110 = V := ⟨_, rfl⟩
      rw [hV] at HV q0 q1
      have e1 : (u + 110 / 2) / 110 = V := hV
      clear hV hb
      rw [show ((u + 110 / 2) / 110 : Int) = V from e1]
      clear e1
      go_wp2_with fail
      go_round
      case rel => exact ⟨1, by omega, rfl, by rw [← HV.out]⟩
      case measure => simp only [intOf]; omega
    · have i1 := I1.out
      have hb := HS.out 1
      have HV := Lib.hid (show 2147483648 - (mul u (ser u sinN 1) + 72 / 2) / 72 = ser u sinN 2 from rfl)
      have HXQ := Lib.hid (HXM.out (ser u sinN 1) hb)
      have mb := mul_bd u0 hb.1 hb.2
      clear hb
      generalize ser u sinN 1 = r at *
      generalize mul u r = m at *
      obtain ⟨m0, m1⟩ := mb
      have q := half_le (m := m) (n := 72) m0 (by decide)
      obtain ⟨q0, q1⟩ := q
      have HD := Lib.hid (xTdiv m 72 ⟨m0, by omega⟩ ⟨by decide, by decide⟩)
      generalize (m + 72 / 2) / 72 = V at *
      go_wp2_with fail
      refine (HXQ.out _).mono ?_; rintro e w2 ⟨rfl, rfl⟩
      go_wp2_with fail
      refine (HD.out _).mono ?_; rintro e w3 ⟨rfl, rfl⟩
      go_wp2_with fail
      go_round
      case rel => exact ⟨2, by omega, rfl, by rw [← HV.out]⟩
      case measure => simp only [intOf]; omega
    · have i2 := I2.out
      have hb := HS.out 2
      have HV := Lib.hid (show 2147483648 - (mul u (ser u sinN 2) + 42 / 2) / 42 = ser u sinN 3 from rfl)
      have HXQ := Lib.hid (HXM.out (ser u sinN 2) hb)
      have mb := mul_bd u0 hb.1 hb.2
      clear hb
      generalize ser u sinN 2 = r at *
      generalize mul u r = m at *
      obtain ⟨m0, m1⟩ := mb
      have q := half_le (m := m) (n := 42) m0 (by decide)
      obtain ⟨q0, q1⟩ := q
      have HD := Lib.hid (xTdiv m 42 ⟨m0, by omega⟩ ⟨by decide, by decide⟩)
      generalize (m + 42 / 2) / 42 = V at *
      go_wp2_with fail
      refine (HXQ.out _).mono ?_; rintro e w2 ⟨rfl, rfl⟩
      go_wp2_with fail
      refine (HD.out _).mono ?_; rintro e w3 ⟨rfl, rfl⟩
      go_wp2_with fail
      go_round
      case rel => exact ⟨3, by omega, rfl, by rw [← HV.out]⟩
      case measure => simp only [intOf]; omega
    · have i3 := I3.out
      have hb := HS.out 3
      have HV := Lib.hid (show 2147483648 - (mul u (ser u sinN 3) + 20 / 2) / 20 = ser u sinN 4 from rfl)
      have HXQ := Lib.hid (HXM.out (ser u sinN 3) hb)
      have mb := mul_bd u0 hb.1 hb.2
      clear hb
      generalize ser u sinN 3 = r at *
      generalize mul u r = m at *
      obtain ⟨m0, m1⟩ := mb
      have q := half_le (m := m) (n := 20) m0 (by decide)
      obtain ⟨q0, q1⟩ := q
      have HD := Lib.hid (xTdiv m 20 ⟨m0, by omega⟩ ⟨by decide, by decide⟩)
      generalize (m + 20 / 2) / 20 = V at *
      go_wp2_with fail
      refine (HXQ.out _).mono ?_; rintro e w2 ⟨rfl, rfl⟩
      go_wp2_with fail
      refine (HD.out _).mono ?_; rintro e w3 ⟨rfl, rfl⟩
      go_wp2_with fail
      go_round
      case rel => exact ⟨4, by omega, rfl, by rw [← HV.out]⟩
      case measure => simp only [intOf]; omega
    · have i4 := I4.out
      have hb := HS.out 4
      have HV := Lib.hid (show 2147483648 - (mul u (ser u sinN 4) + 6 / 2) / 6 = ser u sinN 5 from rfl)
      have HXQ := Lib.hid (HXM.out (ser u sinN 4) hb)
      have mb := mul_bd u0 hb.1 hb.2
      clear hb
      generalize ser u sinN 4 = r at *
      generalize mul u r = m at *
      obtain ⟨m0, m1⟩ := mb
      have q := half_le (m := m) (n := 6) m0 (by decide)
      obtain ⟨q0, q1⟩ := q
      have HD := Lib.hid (xTdiv m 6 ⟨m0, by omega⟩ ⟨by decide, by decide⟩)
      generalize (m + 6 / 2) / 6 = V at *
      go_wp2_with fail
      refine (HXQ.out _).mono ?_; rintro e w2 ⟨rfl, rfl⟩
      go_wp2_with fail
      refine (HD.out _).mono ?_; rintro e w3 ⟨rfl, rfl⟩
      go_wp2_with fail
      go_round
      case rel => exact ⟨5, by omega, rfl, by rw [← HV.out]⟩
      case measure => simp only [intOf]; omega
    · have hb := HS.out 5
      have HXQ := Lib.hid (HXT.out (ser u sinN 5) hb)
      have mb := mul_bd t0 hb.1 hb.2
      obtain ⟨m0, m1⟩ := mb
      clear hb
      generalize ser u sinN 5 = r at *
      generalize mul T r = m at *
      go_wp2_with fail
      refine (HXQ.out _).mono ?_; rintro e w2 ⟨rfl, rfl⟩
      go_wp2_with fail
      go_ret
      exact ⟨ret_int (by rw [hv.out]), rfl⟩
set_option maxRecDepth 100000 in
set_option maxHeartbeats 2000000 in
theorem xCosS (a : Int) (h0 : 0 ≤ a) (h1 : a ≤ 16200000) (w : World) : Calls Try.prog 83 #[.int .i64 a] w fun e w' => e = .returned (.int .i64 (cosS a)) ∧ w = w' := by
  have tb := tV_bd h0 h1
  have ub := uV_bd h0 h1
  have hv := Lib.hid (cosS_ser a)
  have HT := Lib.hid (show (a * 6746518852 + 32400000) / 64800000 = tV a from rfl)
  have HM := Lib.hid (xTmul (tV a) (tV a) ⟨by omega, by omega⟩ ⟨by omega, by omega⟩)
  rw [show mul (tV a) (tV a) = uV a from rfl] at HM
  have HS := Lib.hid (ser_bd (u := uV a) (ns := cosN) ub.1 (by omega) cosN_ge)
  have HU := Lib.hid (fun n => ser_one (uV a) n)
  generalize uV a = u at *
  generalize tV a = T at *
  have HXM := Lib.hid (fun y (hy : 0 ≤ y ∧ y ≤ 2147483648) => xTmul u y ⟨ub.1, by omega⟩ hy)
  have HXT := Lib.hid (fun y (hy : 0 ≤ y ∧ y ≤ 2147483648) => xTmul T y ⟨tb.1, by omega⟩ hy)
  obtain ⟨t0, t1⟩ := tb
  obtain ⟨u0, u1⟩ := ub
  have i0 : ∀ w, (Instr.index 143 (.agg #[.int .i64 90, .int .i64 56, .int .i64 30, .int .i64 12, .int .i64 2]) (.int .i64 0)).run Try.prog w = .ok (.int .i64 90) w := fun _ => by kernel_rfl
  have I0 := Lib.hid i0
  clear i0
  have i1 : ∀ w, (Instr.index 143 (.agg #[.int .i64 90, .int .i64 56, .int .i64 30, .int .i64 12, .int .i64 2]) (.int .i64 1)).run Try.prog w = .ok (.int .i64 56) w := fun _ => by kernel_rfl
  have I1 := Lib.hid i1
  clear i1
  have i2 : ∀ w, (Instr.index 143 (.agg #[.int .i64 90, .int .i64 56, .int .i64 30, .int .i64 12, .int .i64 2]) (.int .i64 2)).run Try.prog w = .ok (.int .i64 30) w := fun _ => by kernel_rfl
  have I2 := Lib.hid i2
  clear i2
  have i3 : ∀ w, (Instr.index 143 (.agg #[.int .i64 90, .int .i64 56, .int .i64 30, .int .i64 12, .int .i64 2]) (.int .i64 3)).run Try.prog w = .ok (.int .i64 12) w := fun _ => by kernel_rfl
  have I3 := Lib.hid i3
  clear i3
  have i4 : ∀ w, (Instr.index 143 (.agg #[.int .i64 90, .int .i64 56, .int .i64 30, .int .i64 12, .int .i64 2]) (.int .i64 4)).run Try.prog w = .ok (.int .i64 2) w := fun _ => by kernel_rfl
  have I4 := Lib.hid i4
  clear i4
  go_enter Try.func83, Try.ntmps83
  go_wp2_with fail
  rw [HT.out]
  refine (HM.out _).mono ?_; rintro e w1 ⟨rfl, rfl⟩
  go_wp2_with fail
  go_loop [5, 17] (fun r i => ∃ k : Nat, k ≤ 5 ∧ i = .int .i64 k ∧ r = .int .i64 (ser u cosN k)) (fun _ i => 5 - (intOf i).toNat)
  case atStart => exact ⟨0, by omega, rfl, rfl⟩
  case round =>
    obtain ⟨k, hk, rfl, rfl⟩ := hrel
    rcases (show k = 0 ∨ k = 1 ∨ k = 2 ∨ k = 3 ∨ k = 4 ∨ k = 5 by omega) with rfl | rfl | rfl | rfl | rfl | rfl
    · have i0 := I0.out
      go_wp2_with fail
      refine (xTdiv u 90 ⟨u0, by omega⟩ ⟨by decide, by decide⟩ _).mono ?_; rintro e w2 ⟨rfl, rfl⟩
      have hb := HS.out 1
      have HV := Lib.hid (show 2147483648 - (u + 90 / 2) / 90 = ser u cosN 1 from HU.out 90)
      have q := half_le (m := u) (n := 90) u0 (by decide)
      obtain ⟨q0, q1⟩ := q
      obtain ⟨V, hV⟩ : ∃ V, (u + 90 / 2) / 90 = V := ⟨_, rfl⟩
      rw [hV] at HV q0 q1
      have e1 : (u + 90 / 2) / 90 = V := hV
      clear hV hb
      rw [show ((u + 90 / 2) / 90 : Int) = V from e1]
      clear e1
      go_wp2_with fail
      go_round
      case rel => exact ⟨1, by omega, rfl, by rw [← HV.out]⟩
      case measure => simp only [intOf]; omega
    · have i1 := I1.out
      have hb := HS.out 1
      have HV := Lib.hid (show 2147483648 - (mul u (ser u cosN 1) + 56 / 2) / 56 = ser u cosN 2 from rfl)
      have HXQ := Lib.hid (HXM.out (ser u cosN 1) hb)
      have mb := mul_bd u0 hb.1 hb.2
      clear hb
      generalize ser u cosN 1 = r at *
      generalize mul u r = m at *
      obtain ⟨m0, m1⟩ := mb
      have q := half_le (m := m) (n := 56) m0 (by decide)
      obtain ⟨q0, q1⟩ := q
      have HD := Lib.hid (xTdiv m 56 ⟨m0, by omega⟩ ⟨by decide, by decide⟩)
      generalize (m + 56 / 2) / 56 = V at *
      go_wp2_with fail
      refine (HXQ.out _).mono ?_; rintro e w2 ⟨rfl, rfl⟩
      go_wp2_with fail
      refine (HD.out _).mono ?_; rintro e w3 ⟨rfl, rfl⟩
      go_wp2_with fail
      go_round
      case rel => exact ⟨2, by omega, rfl, by rw [← HV.out]⟩
      case measure => simp only [intOf]; omega
    · have i2 := I2.out
      have hb := HS.out 2
      have HV := Lib.hid (show 2147483648 - (mul u (ser u cosN 2) + 30 / 2) / 30 = ser u cosN 3 from rfl)
      have HXQ := Lib.hid (HXM.out (ser u cosN 2) hb)
      have mb := mul_bd u0 hb.1 hb.2
      clear hb
      generalize ser u cosN 2 = r at *
      generalize mul u r = m at *
      obtain ⟨m0, m1⟩ := mb
      have q := half_le (m := m) (n := 30) m0 (by decide)
      obtain ⟨q0, q1⟩ := q
      have HD := Lib.hid (xTdiv m 30 ⟨m0, by omega⟩ ⟨by decide, by decide⟩)
      generalize (m + 30 / 2) / 30 = V at *
      go_wp2_with fail
      refine (HXQ.out _).mono ?_; rintro e w2 ⟨rfl, rfl⟩
      go_wp2_with fail
      refine (HD.out _).mono ?_; rintro e w3 ⟨rfl, rfl⟩
      go_wp2_with fail
      go_round
      case rel => exact ⟨3, by omega, rfl, by rw [← HV.out]⟩
      case measure => simp only [intOf]; omega
    · have i3 := I3.out
      have hb := HS.out 3
      have HV := Lib.hid (show 2147483648 - (mul u (ser u cosN 3) + 12 / 2) / 12 = ser u cosN 4 from rfl)
      have HXQ := Lib.hid (HXM.out (ser u cosN 3) hb)
      have mb := mul_bd u0 hb.1 hb.2
      clear hb
      generalize ser u cosN 3 = r at *
      generalize mul u r = m at *
      obtain ⟨m0, m1⟩ := mb
      have q := half_le (m := m) (n := 12) m0 (by decide)
      obtain ⟨q0, q1⟩ := q
      have HD := Lib.hid (xTdiv m 12 ⟨m0, by omega⟩ ⟨by decide, by decide⟩)
      generalize (m + 12 / 2) / 12 = V at *
      go_wp2_with fail
      refine (HXQ.out _).mono ?_; rintro e w2 ⟨rfl, rfl⟩
      go_wp2_with fail
      refine (HD.out _).mono ?_; rintro e w3 ⟨rfl, rfl⟩
      go_wp2_with fail
      go_round
      case rel => exact ⟨4, by omega, rfl, by rw [← HV.out]⟩
      case measure => simp only [intOf]; omega
    · have i4 := I4.out
      have hb := HS.out 4
      have HV := Lib.hid (show 2147483648 - (mul u (ser u cosN 4) + 2 / 2) / 2 = ser u cosN 5 from rfl)
      have HXQ := Lib.hid (HXM.out (ser u cosN 4) hb)
      have mb := mul_bd u0 hb.1 hb.2
      clear hb
      generalize ser u cosN 4 = r at *
      generalize mul u r = m at *
      obtain ⟨m0, m1⟩ := mb
      have q := half_le (m := m) (n := 2) m0 (by decide)
      obtain ⟨q0, q1⟩ := q
      have HD := Lib.hid (xTdiv m 2 ⟨m0, by omega⟩ ⟨by decide, by decide⟩)
      generalize (m + 2 / 2) / 2 = V at *
      go_wp2_with fail
      refine (HXQ.out _).mono ?_; rintro e w2 ⟨rfl, rfl⟩
      go_wp2_with fail
      refine (HD.out _).mono ?_; rintro e w3 ⟨rfl, rfl⟩
      go_wp2_with fail
      go_round
      case rel => exact ⟨5, by omega, rfl, by rw [← HV.out]⟩
      case measure => simp only [intOf]; omega
    · have hb := HS.out 5
      obtain ⟨m0, m1⟩ := hb
      generalize ser u cosN 5 = r at *
      go_wp2_with fail
      go_ret
      exact ⟨ret_int (by rw [hv.out]), rfl⟩
end Go.Proofs.Ytkomooeohlcnaaa
