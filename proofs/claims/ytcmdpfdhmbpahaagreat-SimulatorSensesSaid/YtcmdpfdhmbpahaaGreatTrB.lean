/- Layer 7: the series, of the program and of the reference. -/
import Derived.Test.YtcmdpfdhmbpahaaGreatTrA
namespace Go.Proofs.YtcmdpfdhmbpahaaGreat
set_option linter.unusedSimpArgs false
set_option linter.unusedVariables false
open Go.RowKit
open Tr
/-- the rounds of a series -/
def ser (u : Int) (ns : List Int) : Nat → Int
  | 0 => 2147483648
  | k + 1 => stp u (ser u ns k) (ns.getD k 2)
theorem ser_bd {u : Int} {ns : List Int} (hu : 0 ≤ u) (hU : u ≤ 2147483648) (hn : ∀ k, 2 ≤ ns.getD k 2) : ∀ k, 0 ≤ ser u ns k ∧ ser u ns k ≤ 2147483648
  | 0 => ⟨(by decide : (0 : Int) ≤ 2147483648), (by decide : (2147483648 : Int) ≤ 2147483648)⟩
  | k + 1 => stp_bd hu hU (ser_bd hu hU hn k).1 (ser_bd hu hU hn k).2 (hn k)
def sinN : List Int := [110, 72, 42, 20, 6]
def cosN : List Int := [90, 56, 30, 12, 2]
theorem sinN_ge : ∀ k, 2 ≤ sinN.getD k 2
  | 0 => by decide
  | 1 => by decide
  | 2 => by decide
  | 3 => by decide
  | 4 => by decide
  | k + 5 => by simp [sinN]
theorem cosN_ge : ∀ k, 2 ≤ cosN.getD k 2
  | 0 => by decide
  | 1 => by decide
  | 2 => by decide
  | 3 => by decide
  | 4 => by decide
  | k + 5 => by simp [cosN]
theorem sinS_ser (a : Int) : sinS a = (mul (tV a) (ser (uV a) sinN 5) + 1) / 2 := rfl
theorem cosS_ser (a : Int) : cosS a = (ser (uV a) cosN 5 + 1) / 2 := rfl
theorem ser_one (u n : Int) : 2147483648 - (u + n / 2) / n = stp u 2147483648 n := by unfold stp; rw [mul_unit]
set_option maxRecDepth 100000 in
set_option maxHeartbeats 2000000 in
theorem xSinS (a : Int) (h0 : 0 ≤ a) (h1 : a ≤ 16200000) (w : World) : Calls Tryz.prog 105 #[.int .i64 a] w fun e w' => e = .returned (.int .i64 (sinS a)) ∧ w = w' := by
  have tb := tV_bd h0 h1
  have ub := uV_bd h0 h1
  have hv := Lib.hid (sinS_ser a)
  have HT := Lib.hid (show (a * 6746518852 + 32400000) / 64800000 = tV a from rfl)
  have HM := Lib.hid (xTmul (tV a) (tV a) ⟨by omega, by omega⟩ ⟨by omega, by omega⟩)
  rw [show mul (tV a) (tV a) = uV a from rfl] at HM
  have HS := Lib.hid (ser_bd (u := uV a) (ns := sinN) ub.1 (by omega) sinN_ge)
  have HU := Lib.hid (fun n => ser_one (uV a) n)
  generalize uV a = u at *
  generalize tV a = T at *
  have HXM := Lib.hid (fun y (hy : 0 ≤ y ∧ y ≤ 2147483648) => xTmul u y ⟨ub.1, by omega⟩ hy)
  have HXT := Lib.hid (fun y (hy : 0 ≤ y ∧ y ≤ 2147483648) => xTmul T y ⟨tb.1, by omega⟩ hy)
  obtain ⟨t0, t1⟩ := tb
  obtain ⟨u0, u1⟩ := ub
  have i0 : ∀ w, (Instr.index 128 (.agg #[.int .i64 110, .int .i64 72, .int .i64 42, .int .i64 20, .int .i64 6]) (.int .i64 0)).run Tryz.prog w = .ok (.int .i64 110) w := fun _ => by kernel_rfl
  have I0 := Lib.hid i0
  clear i0
  have i1 : ∀ w, (Instr.index 128 (.agg #[.int .i64 110, .int .i64 72, .int .i64 42, .int .i64 20, .int .i64 6]) (.int .i64 1)).run Tryz.prog w = .ok (.int .i64 72) w := fun _ => by kernel_rfl
  have I1 := Lib.hid i1
  clear i1
  have i2 : ∀ w, (Instr.index 128 (.agg #[.int .i64 110, .int .i64 72, .int .i64 42, .int .i64 20, .int .i64 6]) (.int .i64 2)).run Tryz.prog w = .ok (.int .i64 42) w := fun _ => by kernel_rfl
  have I2 := Lib.hid i2
  clear i2
  have i3 : ∀ w, (Instr.index 128 (.agg #[.int .i64 110, .int .i64 72, .int .i64 42, .int .i64 20, .int .i64 6]) (.int .i64 3)).run Tryz.prog w = .ok (.int .i64 20) w := fun _ => by kernel_rfl
  have I3 := Lib.hid i3
  clear i3
  have i4 : ∀ w, (Instr.index 128 (.agg #[.int .i64 110, .int .i64 72, .int .i64 42, .int .i64 20, .int .i64 6]) (.int .i64 4)).run Tryz.prog w = .ok (.int .i64 6) w := fun _ => by kernel_rfl
  have I4 := Lib.hid i4
  clear i4
  go_enter Tryz.func105, Tryz.ntmps105
  go_wp2_with fail
  rw [HT.out]
  refine (HM.out _).mono ?_; rintro e w1 ⟨rfl, rfl⟩
  go_wp2_with fail
  go_loop [5, 17] (fun r i => ∃ k : Nat, k ≤ 5 ∧ i = .int .i64 k ∧ r = .int .i64 (ser u sinN k)) (fun _ i => 5 - (intOf i).toNat)
  case atStart => exact ⟨0, by omega, rfl, rfl⟩
  case round =>
    obtain ⟨k, hk, rfl, rfl⟩ := hrel
    rcases (show k = 0 ∨ k = 1 ∨ k = 2 ∨ k = 3 ∨ k = 4 ∨ k = 5 by omega) with rfl | rfl | rfl | rfl | rfl | rfl
    · have i0 := I0.out
      go_wp2_with fail
      refine (xTdiv u 110 ⟨u0, by omega⟩ ⟨by decide, by decide⟩ _).mono ?_; rintro e w2 ⟨rfl, rfl⟩
      have hb := HS.out 1
      have HV := Lib.hid (show 2147483648 - (u + 110 / 2) / 110 = ser u sinN 1 from HU.out 110)
      have q := half_le (m := u) (n := 110) u0 (by decide)
      obtain ⟨q0, q1⟩ := q
      obtain ⟨V, hV⟩ : ∃ V, (u + 110 / 2) / 110 = V := ⟨_, rfl⟩
      rw [hV] at HV q0 q1
      have e1 : (u + 110 / 2) / 110 = V := hV
      clear hV hb
      rw [show ((u + 110 / 2) / 110 : Int) = V from e1]
      clear e1
      go_wp2_with fail
      go_round
      case rel => exact ⟨1, by omega, rfl, by rw [← HV.out]⟩
      case measure => simp only [intOf]; omega
    · have i1 := I1.out
      have hb := HS.out 1
      have HV := Lib.hid (show 2147483648 - (mul u (ser u sinN 1) + 72 / 2) / 72 = ser u sinN 2 from rfl)
      have HXQ := Lib.hid (HXM.out (ser u sinN 1) hb)
      have mb := mul_bd u0 hb.1 hb.2
      clear hb
      generalize ser u sinN 1 = r at *
      generalize mul u r = m at *
      obtain ⟨m0, m1⟩ := mb
      have q := half_le (m := m) (n := 72) m0 (by decide)
      obtain ⟨q0, q1⟩ := q
      have HD := Lib.hid (xTdiv m 72 ⟨m0, by omega⟩ ⟨by decide, by decide⟩)
      generalize (m + 72 / 2) / 72 = V at *
      go_wp2_with fail
      refine (HXQ.out _).mono ?_; rintro e w2 ⟨rfl, rfl⟩
      go_wp2_with fail
      refine (HD.out _).mono ?_; rintro e w3 ⟨rfl, rfl⟩
      go_wp2_with fail
      go_round
      case rel => exact ⟨2, by omega, rfl, by rw [← HV.out]⟩
      case measure => simp only [intOf]; omega
    · have i2 := I2.out
      have hb := HS.out 2
      have HV := Lib.hid (show 2147483648 - (mul u (ser u sinN 2) + 42 / 2) / 42 = ser u sinN 3 from rfl)
      have HXQ := Lib.hid (HXM.out (ser u sinN 2) hb)
      have mb := mul_bd u0 hb.1 hb.2
      clear hb
      generalize ser u sinN 2 = r at *
      generalize mul u r = m at *
      obtain ⟨m0, m1⟩ := mb
      have q := half_le (m := m) (n := 42) m0 (by decide)
      obtain ⟨q0, q1⟩ := q
      have HD := Lib.hid (xTdiv m 42 ⟨m0, by omega⟩ ⟨by decide, by decide⟩)
      generalize (m + 42 / 2) / 42 = V at *
      go_wp2_with fail
      refine (HXQ.out _).mono ?_; rintro e w2 ⟨rfl, rfl⟩
      go_wp2_with fail
      refine (HD.out _).mono ?_; rintro e w3 ⟨rfl, rfl⟩
      go_wp2_with fail
      go_round
      case rel => exact ⟨3, by omega, rfl, by rw [← HV.out]⟩
      case measure => simp only [intOf]; omega
    · have i3 := I3.out
      have hb := HS.out 3
      have HV := Lib.hid (show 2147483648 - (mul u (ser u sinN 3) + 20 / 2) / 20 = ser u sinN 4 from rfl)
      have HXQ := Lib.hid (HXM.out (ser u sinN 3) hb)
      have mb := mul_bd u0 hb.1 hb.2
      clear hb
      generalize ser u sinN 3 = r at *
      generalize mul u r = m at *
      obtain ⟨m0, m1⟩ := mb
      have q := half_le (m := m) (n := 20) m0 (by decide)
      obtain ⟨q0, q1⟩ := q
      have HD := Lib.hid (xTdiv m 20 ⟨m0, by omega⟩ ⟨by decide, by decide⟩)
      generalize (m + 20 / 2) / 20 = V at *
      go_wp2_with fail
      refine (HXQ.out _).mono ?_; rintro e w2 ⟨rfl, rfl⟩
      go_wp2_with fail
      refine (HD.out _).mono ?_; rintro e w3 ⟨rfl, rfl⟩
      go_wp2_with fail
      go_round
      case rel => exact ⟨4, by omega, rfl, by rw [← HV.out]⟩
      case measure => simp only [intOf]; omega
    · have i4 := I4.out
      have hb := HS.out 4
      have HV := Lib.hid (show 2147483648 - (mul u (ser u sinN 4) + 6 / 2) / 6 = ser u sinN 5 from rfl)
      have HXQ := Lib.hid (HXM.out (ser u sinN 4) hb)
      have mb := mul_bd u0 hb.1 hb.2
      clear hb
      generalize ser u sinN 4 = r at *
      generalize mul u r = m at *
      obtain ⟨m0, m1⟩ := mb
      have q := half_le (m := m) (n := 6) m0 (by decide)
      obtain ⟨q0, q1⟩ := q
      have HD := Lib.hid (xTdiv m 6 ⟨m0, by omega⟩ ⟨by decide, by decide⟩)
      generalize (m + 6 / 2) / 6 = V at *
      go_wp2_with fail
      refine (HXQ.out _).mono ?_; rintro e w2 ⟨rfl, rfl⟩
      go_wp2_with fail
      refine (HD.out _).mono ?_; rintro e w3 ⟨rfl, rfl⟩
      go_wp2_with fail
      go_round
      case rel => exact ⟨5, by omega, rfl, by rw [← HV.out]⟩
      case measure => simp only [intOf]; omega
    · have hb := HS.out 5
      have HXQ := Lib.hid (HXT.out (ser u sinN 5) hb)
      have mb := mul_bd t0 hb.1 hb.2
      obtain ⟨m0, m1⟩ := mb
      clear hb
      generalize ser u sinN 5 = r at *
      generalize mul T r = m at *
      go_wp2_with fail
      refine (HXQ.out _).mono ?_; rintro e w2 ⟨rfl, rfl⟩
      go_wp2_with fail
      go_ret
      exact ⟨ret_int (by rw [hv.out]), rfl⟩
set_option maxRecDepth 100000 in
set_option maxHeartbeats 2000000 in
theorem xCosS (a : Int) (h0 : 0 ≤ a) (h1 : a ≤ 16200000) (w : World) : Calls Tryz.prog 106 #[.int .i64 a] w fun e w' => e = .returned (.int .i64 (cosS a)) ∧ w = w' := by
  have tb := tV_bd h0 h1
  have ub := uV_bd h0 h1
  have hv := Lib.hid (cosS_ser a)
  have HT := Lib.hid (show (a * 6746518852 + 32400000) / 64800000 = tV a from rfl)
  have HM := Lib.hid (xTmul (tV a) (tV a) ⟨by omega, by omega⟩ ⟨by omega, by omega⟩)
  rw [show mul (tV a) (tV a) = uV a from rfl] at HM
  have HS := Lib.hid (ser_bd (u := uV a) (ns := cosN) ub.1 (by omega) cosN_ge)
  have HU := Lib.hid (fun n => ser_one (uV a) n)
  generalize uV a = u at *
  generalize tV a = T at *
  have HXM := Lib.hid (fun y (hy : 0 ≤ y ∧ y ≤ 2147483648) => xTmul u y ⟨ub.1, by omega⟩ hy)
  have HXT := Lib.hid (fun y (hy : 0 ≤ y ∧ y ≤ 2147483648) => xTmul T y ⟨tb.1, by omega⟩ hy)
  obtain ⟨t0, t1⟩ := tb
  obtain ⟨u0, u1⟩ := ub
  have i0 : ∀ w, (Instr.index 128 (.agg #[.int .i64 90, .int .i64 56, .int .i64 30, .int .i64 12, .int .i64 2]) (.int .i64 0)).run Tryz.prog w = .ok (.int .i64 90) w := fun _ => by kernel_rfl
  have I0 := Lib.hid i0
  clear i0
  have i1 : ∀ w, (Instr.index 128 (.agg #[.int .i64 90, .int .i64 56, .int .i64 30, .int .i64 12, .int .i64 2]) (.int .i64 1)).run Tryz.prog w = .ok (.int .i64 56) w := fun _ => by kernel_rfl
  have I1 := Lib.hid i1
  clear i1
  have i2 : ∀ w, (Instr.index 128 (.agg #[.int .i64 90, .int .i64 56, .int .i64 30, .int .i64 12, .int .i64 2]) (.int .i64 2)).run Tryz.prog w = .ok (.int .i64 30) w := fun _ => by kernel_rfl
  have I2 := Lib.hid i2
  clear i2
  have i3 : ∀ w, (Instr.index 128 (.agg #[.int .i64 90, .int .i64 56, .int .i64 30, .int .i64 12, .int .i64 2]) (.int .i64 3)).run Tryz.prog w = .ok (.int .i64 12) w := fun _ => by kernel_rfl
  have I3 := Lib.hid i3
  clear i3
  have i4 : ∀ w, (Instr.index 128 (.agg #[.int .i64 90, .int .i64 56, .int .i64 30, .int .i64 12, .int .i64 2]) (.int .i64 4)).run Tryz.prog w = .ok (.int .i64 2) w := fun _ => by kernel_rfl
  have I4 := Lib.hid i4
  clear i4
  go_enter Tryz.func106, Tryz.ntmps106
  go_wp2_with fail
  rw [HT.out]
  refine (HM.out _).mono ?_; rintro e w1 ⟨rfl, rfl⟩
  go_wp2_with fail
  go_loop [5, 17] (fun r i => ∃ k : Nat, k ≤ 5 ∧ i = .int .i64 k ∧ r = .int .i64 (ser u cosN k)) (fun _ i => 5 - (intOf i).toNat)
  case atStart => exact ⟨0, by omega, rfl, rfl⟩
  case round =>
    obtain ⟨k, hk, rfl, rfl⟩ := hrel
    rcases (show k = 0 ∨ k = 1 ∨ k = 2 ∨ k = 3 ∨ k = 4 ∨ k = 5 by omega) with rfl | rfl | rfl | rfl | rfl | rfl
    · have i0 := I0.out
      go_wp2_with fail
      refine (xTdiv u 90 ⟨u0, by omega⟩ ⟨by decide, by decide⟩ _).mono ?_; rintro e w2 ⟨rfl, rfl⟩
      have hb := HS.out 1
      have HV := Lib.hid (show 2147483648 - (u + 90 / 2) / 90 = ser u cosN 1 from HU.out 90)
      have q := half_le (m := u) (n := 90) u0 (by decide)
      obtain ⟨q0, q1⟩ := q
      obtain ⟨V, hV⟩ : ∃ V, (u + 90 / 2) / 90 = V := ⟨_, rfl⟩
      rw [hV] at HV q0 q1
      have e1 : (u + 90 / 2) / 90 = V := hV
      clear hV hb
      rw [show ((u + 90 / 2) / 90 : Int) = V from e1]
      clear e1
      go_wp2_with fail
      go_round
      case rel => exact ⟨1, by omega, rfl, by rw [← HV.out]⟩
      case measure => simp only [intOf]; omega
    · have i1 := I1.out
      have hb := HS.out 1
      have HV := Lib.hid (show 2147483648 - (mul u (ser u cosN 1) + 56 / 2) / 56 = ser u cosN 2 from rfl)
      have HXQ := Lib.hid (HXM.out (ser u cosN 1) hb)
      have mb := mul_bd u0 hb.1 hb.2
      clear hb
      generalize ser u cosN 1 = r at *
      generalize mul u r = m at *
      obtain ⟨m0, m1⟩ := mb
      have q := half_le (m := m) (n := 56) m0 (by decide)
      obtain ⟨q0, q1⟩ := q
      have HD := Lib.hid (xTdiv m 56 ⟨m0, by omega⟩ ⟨by decide, by decide⟩)
      generalize (m + 56 / 2) / 56 = V at *
      go_wp2_with fail
      refine (HXQ.out _).mono ?_; rintro e w2 ⟨rfl, rfl⟩
      go_wp2_with fail
      refine (HD.out _).mono ?_; rintro e w3 ⟨rfl, rfl⟩
      go_wp2_with fail
      go_round
      case rel => exact ⟨2, by omega, rfl, by rw [← HV.out]⟩
      case measure => simp only [intOf]; omega
    · have i2 := I2.out
      have hb := HS.out 2
      have HV := Lib.hid (show 2147483648 - (mul u (ser u cosN 2) + 30 / 2) / 30 = ser u cosN 3 from rfl)
      have HXQ := Lib.hid (HXM.out (ser u cosN 2) hb)
      have mb := mul_bd u0 hb.1 hb.2
      clear hb
      generalize ser u cosN 2 = r at *
      generalize mul u r = m at *
      obtain ⟨m0, m1⟩ := mb
      have q := half_le (m := m) (n := 30) m0 (by decide)
      obtain ⟨q0, q1⟩ := q
      have HD := Lib.hid (xTdiv m 30 ⟨m0, by omega⟩ ⟨by decide, by decide⟩)
      generalize (m + 30 / 2) / 30 = V at *
      go_wp2_with fail
      refine (HXQ.out _).mono ?_; rintro e w2 ⟨rfl, rfl⟩
      go_wp2_with fail
      refine (HD.out _).mono ?_; rintro e w3 ⟨rfl, rfl⟩
      go_wp2_with fail
      go_round
      case rel => exact ⟨3, by omega, rfl, by rw [← HV.out]⟩
      case measure => simp only [intOf]; omega
    · have i3 := I3.out
      have hb := HS.out 3
      have HV := Lib.hid (show 2147483648 - (mul u (ser u cosN 3) + 12 / 2) / 12 = ser u cosN 4 from rfl)
      have HXQ := Lib.hid (HXM.out (ser u cosN 3) hb)
      have mb := mul_bd u0 hb.1 hb.2
      clear hb
      generalize ser u cosN 3 = r at *
      generalize mul u r = m at *
      obtain ⟨m0, m1⟩ := mb
      have q := half_le (m := m) (n := 12) m0 (by decide)
      obtain ⟨q0, q1⟩ := q
      have HD := Lib.hid (xTdiv m 12 ⟨m0, by omega⟩ ⟨by decide, by decide⟩)
      generalize (m + 12 / 2) / 12 = V at *
      go_wp2_with fail
      refine (HXQ.out _).mono ?_; rintro e w2 ⟨rfl, rfl⟩
      go_wp2_with fail
      refine (HD.out _).mono ?_; rintro e w3 ⟨rfl, rfl⟩
      go_wp2_with fail
      go_round
      case rel => exact ⟨4, by omega, rfl, by rw [← HV.out]⟩
      case measure => simp only [intOf]; omega
    · have i4 := I4.out
      have hb := HS.out 4
      have HV := Lib.hid (show 2147483648 - (mul u (ser u cosN 4) + 2 / 2) / 2 = ser u cosN 5 from rfl)
      have HXQ := Lib.hid (HXM.out (ser u cosN 4) hb)
      have mb := mul_bd u0 hb.1 hb.2
      clear hb
      generalize ser u cosN 4 = r at *
      generalize mul u r = m at *
      obtain ⟨m0, m1⟩ := mb
      have q := half_le (m := m) (n := 2) m0 (by decide)
      obtain ⟨q0, q1⟩ := q
      have HD := Lib.hid (xTdiv m 2 ⟨m0, by omega⟩ ⟨by decide, by decide⟩)
      generalize (m + 2 / 2) / 2 = V at *
      go_wp2_with fail
      refine (HXQ.out _).mono ?_; rintro e w2 ⟨rfl, rfl⟩
      go_wp2_with fail
      refine (HD.out _).mono ?_; rintro e w3 ⟨rfl, rfl⟩
      go_wp2_with fail
      go_round
      case rel => exact ⟨5, by omega, rfl, by rw [← HV.out]⟩
      case measure => simp only [intOf]; omega
    · have hb := HS.out 5
      obtain ⟨m0, m1⟩ := hb
      generalize ser u cosN 5 = r at *
      go_wp2_with fail
      go_ret
      exact ⟨ret_int (by rw [hv.out]), rfl⟩
set_option maxRecDepth 100000 in
set_option maxHeartbeats 2000000 in
theorem rArg (a : Int) (h0 : 0 ≤ a) (h1 : a ≤ 16200000) (w : World) : Calls Tryz.prog 131 #[.int .i64 a] w fun e w' => e = .returned (.tuple #[.int .i64 (tV a), .int .i64 (uV a)]) ∧ w = w' := by
  have tb := tV_bd h0 h1
  have HT := Lib.hid (show (a * 6746518852 + 32400000) / 64800000 = tV a from rfl)
  have HM := Lib.hid (rTmul (tV a) (tV a) ⟨by omega, by omega⟩ ⟨by omega, by omega⟩)
  rw [show mul (tV a) (tV a) = uV a from rfl] at HM
  generalize uV a = u at *
  generalize tV a = T at *
  obtain ⟨t0, t1⟩ := tb
  go_enter Tryz.func131, Tryz.ntmps131
  go_wp2_with fail
  rw [HT.out]
  refine (HM.out _).mono ?_; rintro e w1 ⟨rfl, rfl⟩
  go_wp2_with fail
  go_ret2
  exact ⟨rfl, rfl⟩
set_option maxRecDepth 100000 in
set_option maxHeartbeats 2000000 in
theorem rSinS (a : Int) (h0 : 0 ≤ a) (h1 : a ≤ 16200000) (w : World) : Calls Tryz.prog 113 #[.int .i64 a] w fun e w' => e = .returned (.int .i64 (sinS a)) ∧ w = w' := by
  have tb := tV_bd h0 h1
  have ub := uV_bd h0 h1
  have hv := Lib.hid (sinS_ser a)
  have HA := Lib.hid (rArg a h0 h1)
  have HS := Lib.hid (ser_bd (u := uV a) (ns := sinN) ub.1 (by omega) sinN_ge)
  have HU := Lib.hid (fun n => ser_one (uV a) n)
  generalize uV a = u at *
  generalize tV a = T at *
  obtain ⟨t0, t1⟩ := tb
  obtain ⟨u0, u1⟩ := ub
  have D0 := Lib.hid (rTdiv u 110 ⟨u0, by omega⟩ ⟨by decide, by decide⟩)
  have V0 := Lib.hid (show 2147483648 - (u + 110 / 2) / 110 = ser u sinN 1 from HU.out 110)
  have q := half_le (m := u) (n := 110) u0 (by decide)
  obtain ⟨q00, q01⟩ := q
  obtain ⟨W0, hW0⟩ : ∃ V, (u + 110 / 2) / 110 = V := ⟨_, rfl⟩
  rw [hW0] at V0 q00 q01 D0
  clear hW0
  have hb1 := HS.out 1
  have V1 := Lib.hid (show 2147483648 - (mul u (ser u sinN 1) + 72 / 2) / 72 = ser u sinN 2 from rfl)
  have M1 := Lib.hid (rTmul u (ser u sinN 1) ⟨u0, by omega⟩ hb1)
  have mb1 := mul_bd u0 hb1.1 hb1.2
  have hb2 := HS.out 2
  have V2 := Lib.hid (show 2147483648 - (mul u (ser u sinN 2) + 42 / 2) / 42 = ser u sinN 3 from rfl)
  have M2 := Lib.hid (rTmul u (ser u sinN 2) ⟨u0, by omega⟩ hb2)
  have mb2 := mul_bd u0 hb2.1 hb2.2
  have hb3 := HS.out 3
  have V3 := Lib.hid (show 2147483648 - (mul u (ser u sinN 3) + 20 / 2) / 20 = ser u sinN 4 from rfl)
  have M3 := Lib.hid (rTmul u (ser u sinN 3) ⟨u0, by omega⟩ hb3)
  have mb3 := mul_bd u0 hb3.1 hb3.2
  have hb4 := HS.out 4
  have V4 := Lib.hid (show 2147483648 - (mul u (ser u sinN 4) + 6 / 2) / 6 = ser u sinN 5 from rfl)
  have M4 := Lib.hid (rTmul u (ser u sinN 4) ⟨u0, by omega⟩ hb4)
  have mb4 := mul_bd u0 hb4.1 hb4.2
  have hb5 := HS.out 5
  have M5 := Lib.hid (rTmul T (ser u sinN 5) ⟨t0, by omega⟩ hb5)
  have mb5 := mul_bd t0 hb5.1 hb5.2
  clear HS HU
  generalize ser u sinN 1 = r1 at *
  generalize ser u sinN 2 = r2 at *
  generalize ser u sinN 3 = r3 at *
  generalize ser u sinN 4 = r4 at *
  generalize ser u sinN 5 = r5 at *
  generalize mul u r1 = m1 at *
  have D1 := Lib.hid (rTdiv m1 72 ⟨mb1.1, by omega⟩ ⟨by decide, by decide⟩)
  have q1 := half_le (m := m1) (n := 72) mb1.1 (by decide)
  generalize (m1 + 72 / 2) / 72 = W1 at *
  obtain ⟨q10, q11⟩ := q1
  obtain ⟨m10, m11⟩ := mb1
  generalize mul u r2 = m2 at *
  have D2 := Lib.hid (rTdiv m2 42 ⟨mb2.1, by omega⟩ ⟨by decide, by decide⟩)
  have q2 := half_le (m := m2) (n := 42) mb2.1 (by decide)
  generalize (m2 + 42 / 2) / 42 = W2 at *
  obtain ⟨q20, q21⟩ := q2
  obtain ⟨m20, m21⟩ := mb2
  generalize mul u r3 = m3 at *
  have D3 := Lib.hid (rTdiv m3 20 ⟨mb3.1, by omega⟩ ⟨by decide, by decide⟩)
  have q3 := half_le (m := m3) (n := 20) mb3.1 (by decide)
  generalize (m3 + 20 / 2) / 20 = W3 at *
  obtain ⟨q30, q31⟩ := q3
  obtain ⟨m30, m31⟩ := mb3
  generalize mul u r4 = m4 at *
  have D4 := Lib.hid (rTdiv m4 6 ⟨mb4.1, by omega⟩ ⟨by decide, by decide⟩)
  have q4 := half_le (m := m4) (n := 6) mb4.1 (by decide)
  generalize (m4 + 6 / 2) / 6 = W4 at *
  obtain ⟨q40, q41⟩ := q4
  obtain ⟨m40, m41⟩ := mb4
  generalize mul T r5 = m5 at *
  obtain ⟨m50, m51⟩ := mb5
  obtain ⟨b50, b51⟩ := hb5
  clear hb1 hb2 hb3 hb4
  go_enter Tryz.func113, Tryz.ntmps113
  go_wp2_with fail
  refine (HA.out _).mono ?_; rintro e w1 ⟨rfl, rfl⟩
  go_wp2_with fail
  refine (D0.out _).mono ?_; rintro e w1 ⟨rfl, rfl⟩
  go_wp2_with fail
  rw [V0.out]
  refine (M1.out _).mono ?_; rintro e w1 ⟨rfl, rfl⟩
  go_wp2_with fail
  refine (D1.out _).mono ?_; rintro e w1 ⟨rfl, rfl⟩
  go_wp2_with fail
  rw [V1.out]
  refine (M2.out _).mono ?_; rintro e w1 ⟨rfl, rfl⟩
  go_wp2_with fail
  refine (D2.out _).mono ?_; rintro e w1 ⟨rfl, rfl⟩
  go_wp2_with fail
  rw [V2.out]
  refine (M3.out _).mono ?_; rintro e w1 ⟨rfl, rfl⟩
  go_wp2_with fail
  refine (D3.out _).mono ?_; rintro e w1 ⟨rfl, rfl⟩
  go_wp2_with fail
  rw [V3.out]
  refine (M4.out _).mono ?_; rintro e w1 ⟨rfl, rfl⟩
  go_wp2_with fail
  refine (D4.out _).mono ?_; rintro e w1 ⟨rfl, rfl⟩
  go_wp2_with fail
  rw [V4.out]
  refine (M5.out _).mono ?_; rintro e w1 ⟨rfl, rfl⟩
  go_wp2_with fail
  go_ret
  exact ⟨ret_int (by rw [hv.out]), rfl⟩
set_option maxRecDepth 100000 in
set_option maxHeartbeats 2000000 in
theorem rCosS (a : Int) (h0 : 0 ≤ a) (h1 : a ≤ 16200000) (w : World) : Calls Tryz.prog 114 #[.int .i64 a] w fun e w' => e = .returned (.int .i64 (cosS a)) ∧ w = w' := by
  have tb := tV_bd h0 h1
  have ub := uV_bd h0 h1
  have hv := Lib.hid (cosS_ser a)
  have HA := Lib.hid (rArg a h0 h1)
  have HS := Lib.hid (ser_bd (u := uV a) (ns := cosN) ub.1 (by omega) cosN_ge)
  have HU := Lib.hid (fun n => ser_one (uV a) n)
  generalize uV a = u at *
  generalize tV a = T at *
  obtain ⟨t0, t1⟩ := tb
  obtain ⟨u0, u1⟩ := ub
  have D0 := Lib.hid (rTdiv u 90 ⟨u0, by omega⟩ ⟨by decide, by decide⟩)
  have V0 := Lib.hid (show 2147483648 - (u + 90 / 2) / 90 = ser u cosN 1 from HU.out 90)
  have q := half_le (m := u) (n := 90) u0 (by decide)
  obtain ⟨q00, q01⟩ := q
  obtain ⟨W0, hW0⟩ : ∃ V, (u + 90 / 2) / 90 = V := ⟨_, rfl⟩
  rw [hW0] at V0 q00 q01 D0
  clear hW0
  have hb1 := HS.out 1
  have V1 := Lib.hid (show 2147483648 - (mul u (ser u cosN 1) + 56 / 2) / 56 = ser u cosN 2 from rfl)
  have M1 := Lib.hid (rTmul u (ser u cosN 1) ⟨u0, by omega⟩ hb1)
  have mb1 := mul_bd u0 hb1.1 hb1.2
  have hb2 := HS.out 2
  have V2 := Lib.hid (show 2147483648 - (mul u (ser u cosN 2) + 30 / 2) / 30 = ser u cosN 3 from rfl)
  have M2 := Lib.hid (rTmul u (ser u cosN 2) ⟨u0, by omega⟩ hb2)
  have mb2 := mul_bd u0 hb2.1 hb2.2
  have hb3 := HS.out 3
  have V3 := Lib.hid (show 2147483648 - (mul u (ser u cosN 3) + 12 / 2) / 12 = ser u cosN 4 from rfl)
  have M3 := Lib.hid (rTmul u (ser u cosN 3) ⟨u0, by omega⟩ hb3)
  have mb3 := mul_bd u0 hb3.1 hb3.2
  have hb4 := HS.out 4
  have V4 := Lib.hid (show 2147483648 - (mul u (ser u cosN 4) + 2 / 2) / 2 = ser u cosN 5 from rfl)
  have M4 := Lib.hid (rTmul u (ser u cosN 4) ⟨u0, by omega⟩ hb4)
  have mb4 := mul_bd u0 hb4.1 hb4.2
  have hb5 := HS.out 5
  clear HS HU
  generalize ser u cosN 1 = r1 at *
  generalize ser u cosN 2 = r2 at *
  generalize ser u cosN 3 = r3 at *
  generalize ser u cosN 4 = r4 at *
  generalize ser u cosN 5 = r5 at *
  generalize mul u r1 = m1 at *
  have D1 := Lib.hid (rTdiv m1 56 ⟨mb1.1, by omega⟩ ⟨by decide, by decide⟩)
  have q1 := half_le (m := m1) (n := 56) mb1.1 (by decide)
  generalize (m1 + 56 / 2) / 56 = W1 at *
  obtain ⟨q10, q11⟩ := q1
  obtain ⟨m10, m11⟩ := mb1
  generalize mul u r2 = m2 at *
  have D2 := Lib.hid (rTdiv m2 30 ⟨mb2.1, by omega⟩ ⟨by decide, by decide⟩)
  have q2 := half_le (m := m2) (n := 30) mb2.1 (by decide)
  generalize (m2 + 30 / 2) / 30 = W2 at *
  obtain ⟨q20, q21⟩ := q2
  obtain ⟨m20, m21⟩ := mb2
  generalize mul u r3 = m3 at *
  have D3 := Lib.hid (rTdiv m3 12 ⟨mb3.1, by omega⟩ ⟨by decide, by decide⟩)
  have q3 := half_le (m := m3) (n := 12) mb3.1 (by decide)
  generalize (m3 + 12 / 2) / 12 = W3 at *
  obtain ⟨q30, q31⟩ := q3
  obtain ⟨m30, m31⟩ := mb3
  generalize mul u r4 = m4 at *
  have D4 := Lib.hid (rTdiv m4 2 ⟨mb4.1, by omega⟩ ⟨by decide, by decide⟩)
  have q4 := half_le (m := m4) (n := 2) mb4.1 (by decide)
  generalize (m4 + 2 / 2) / 2 = W4 at *
  obtain ⟨q40, q41⟩ := q4
  obtain ⟨m40, m41⟩ := mb4
  obtain ⟨b50, b51⟩ := hb5
  clear hb1 hb2 hb3 hb4
  go_enter Tryz.func114, Tryz.ntmps114
  go_wp2_with fail
  refine (HA.out _).mono ?_; rintro e w1 ⟨rfl, rfl⟩
  go_wp2_with fail
  refine (D0.out _).mono ?_; rintro e w1 ⟨rfl, rfl⟩
  go_wp2_with fail
  rw [V0.out]
  refine (M1.out _).mono ?_; rintro e w1 ⟨rfl, rfl⟩
  go_wp2_with fail
  refine (D1.out _).mono ?_; rintro e w1 ⟨rfl, rfl⟩
  go_wp2_with fail
  rw [V1.out]
  refine (M2.out _).mono ?_; rintro e w1 ⟨rfl, rfl⟩
  go_wp2_with fail
  refine (D2.out _).mono ?_; rintro e w1 ⟨rfl, rfl⟩
  go_wp2_with fail
  rw [V2.out]
  refine (M3.out _).mono ?_; rintro e w1 ⟨rfl, rfl⟩
  go_wp2_with fail
  refine (D3.out _).mono ?_; rintro e w1 ⟨rfl, rfl⟩
  go_wp2_with fail
  rw [V3.out]
  refine (M4.out _).mono ?_; rintro e w1 ⟨rfl, rfl⟩
  go_wp2_with fail
  refine (D4.out _).mono ?_; rintro e w1 ⟨rfl, rfl⟩
  have e5 := V4.out
  have e6 : 0 ≤ 2147483648 - W4 := by omega
  have e7 : 2147483648 - W4 ≤ 2147483648 := by omega
  clear e5
  go_wp2_with fail
  go_ret
  exact ⟨ret_int (by rw [hv.out, V4.out]), rfl⟩
end Go.Proofs.YtcmdpfdhmbpahaaGreat
