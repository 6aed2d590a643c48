/- Layer 30: true airspeeds, of the program and of the reference. -/
import Derived.Test.YtcmdpfdhmbpahaaAtTRS
import Derived.Test.YtcmdpfdhmbpahaaInB
namespace Go.Proofs.Ytcmdpfdhmbpahaa
set_option linter.unusedSimpArgs false
set_option linter.unusedVariables false
open Go.RowKit
def tsE (cas alt dev : Int) : Int := if inB cas 0 1000 = true then tE alt dev else 1
def tsV (cas alt dev : Int) : Int := if tsE cas alt dev = 0 then cas * rtV alt dev / 1000000 else 0
def omE (m alt dev : Int) : Int := if inB m 0 2000 = true then tE alt dev else 1
def omV (m alt dev : Int) : Int := if omE m alt dev = 0 then (m * sdV alt dev + 15999) / 16000 else 0
def scdE (cas m alt dev : Int) : Int := if inB cas 0 1000 = true ∧ inB m 0 2000 = true then tE alt dev else 1
def scdV (cas m alt dev : Int) : Int := if scdE cas m alt dev = 0 then min (tsV cas alt dev) (omV m alt dev) else 0
theorem rt_bd (alt dev : Int) : 0 ≤ rtV alt dev ∧ rtV alt dev ≤ 3500000 := by
  unfold rtV
  by_cases h : tE alt dev = 0
  · rw [if_pos h]
    obtain ⟨h1, h2⟩ := tE_zero h
    have b := rat_bd h1 h2
    unfold At.ratV
    omega
  · rw [if_neg h]; omega
theorem sd_bd (alt dev : Int) : 0 ≤ sdV alt dev ∧ sdV alt dev ≤ 12000 := by
  unfold sdV
  by_cases h : tE alt dev = 0
  · rw [if_pos h]
    obtain ⟨h1, h2⟩ := tE_zero h
    have b := temp_bd h1 h2
    have h := (Fx.isq_spec (388734 * At.tempV alt dev / 100).toNat).1
    have hn : (388734 * At.tempV alt dev / 100).toNat ≤ 144000000 := by omega
    show 0 ≤ ((Fx.isq _ : Nat) : Int) ∧ _
    unfold At.soundV
    generalize Fx.isq (388734 * At.tempV alt dev / 100).toNat = r at *
    refine ⟨by omega, ?_⟩
    have hr : r ≤ 12000 := by
      rcases Nat.lt_or_ge 12000 r with h' | h'
      · exfalso
        have := Nat.mul_le_mul (show 12001 ≤ r from h') (show 12001 ≤ r from h')
        omega
      · exact h'
    omega
  · rw [if_neg h]; omega
theorem xWi30 (n m : Int) (w : World) : Calls Try.prog 72 #[.int .i64 n, .int .i64 m] w fun e w' => e = .returned (.bool (inB n 0 m)) ∧ w = w' := by
  have hv := Lib.hid (show inB n 0 m = (decide (0 ≤ n) && decide (n ≤ m)) from rfl)
  by_cases h1 : n < 0
  · go_enter Try.func72, Try.ntmps72
    go_wp2
    go_ret
    exact ⟨ret_bool (by rw [hv.out, Bool.eq_iff_iff]; simp; try omega), rfl⟩
  by_cases h2 : m < n
  · go_enter Try.func72, Try.ntmps72
    go_wp2
    go_ret
    exact ⟨ret_bool (by rw [hv.out, Bool.eq_iff_iff]; simp; try omega), rfl⟩
  · go_enter Try.func72, Try.ntmps72
    go_wp2
    go_ret
    exact ⟨ret_bool (by rw [hv.out, Bool.eq_iff_iff]; simp; try omega), rfl⟩
set_option maxRecDepth 100000 in
set_option maxHeartbeats 2000000 in
theorem xTAS (cas alt dev : Int) (w : World) : Calls Try.prog 32 #[.int .i64 cas, .int .i64 alt, .int .i64 dev] w fun e w' => e = .returned (.tuple #[.int .i64 (tsV cas alt dev), .int .i64 (tsE cas alt dev)]) ∧ Below w.heap.size w w' := by
  have HI := Lib.hid (fun w => xWi30 cas 1000 w)
  have HR := Lib.hid (fun w => aRatio alt dev w)
  have HE := Lib.hid (show tsE cas alt dev = if inB cas 0 1000 = true then tE alt dev else 1 from rfl)
  have HV := Lib.hid (show tsV cas alt dev = if tsE cas alt dev = 0 then cas * rtV alt dev / 1000000 else 0 from rfl)
  have hr := rt_bd alt dev
  generalize tsV cas alt dev = V at *
  generalize tsE cas alt dev = E at *
  cases hc : inB cas 0 1000
  · rw [hc] at HI HE
    have HE1 := Lib.hid (HE.out.trans (if_neg (by decide)))
    have HV1 := Lib.hid (HV.out.trans (if_neg (by rw [HE1.out]; decide)))
    clear HE HV hc
    go_enter Try.func32, Try.ntmps32
    go_wp2_with fail
    refine (HI.out _).mono ?_; rintro e w1 ⟨rfl, rfl⟩
    go_wp2_with fail
    go_ret2
    exact ⟨ret_tup2 HV1.out.symm HE1.out.symm, Below.refl _ _⟩
  rw [hc] at HI HE
  have hb := inB_iff.1 hc
  obtain ⟨b1, b2⟩ := hb
  obtain ⟨r1, r2⟩ := hr
  by_cases he : tE alt dev = 0
  · rw [he] at HE HR
    have HE1 := Lib.hid (HE.out.trans (if_pos rfl))
    have HV1 := Lib.hid (HV.out.trans (if_pos HE1.out))
    generalize rtV alt dev = R at *
    have m1 : 0 ≤ cas * R := Int.mul_nonneg b1 r1
    have m2 : cas * R ≤ 1000 * 3500000 := Int.mul_le_mul b2 r2 r1 (by decide)
    clear HE HV hc he
    go_enter Try.func32, Try.ntmps32
    go_wp2_with fail
    refine (HI.out _).mono ?_; rintro e w1 ⟨rfl, rfl⟩
    go_wp2_with fail
    refine (HR.out _).mono ?_; rintro e w1 ⟨rfl, hB⟩
    have HB := Lib.hid hB
    clear hB
    go_wp2_with fail
    go_ret2
    exact ⟨ret_tup2 HV1.out.symm HE1.out.symm, HB.out⟩
  · have e1 := beq_of he
    have e2 := bne_of e1
    have HE1 := Lib.hid (HE.out.trans (if_pos rfl))
    have HV1 := Lib.hid (HV.out.trans (if_neg (by rw [HE1.out]; exact he)))
    clear HE HV hc he
    generalize tE alt dev = E' at *
    go_enter Try.func32, Try.ntmps32
    go_wp2_with fail
    refine (HI.out _).mono ?_; rintro e w1 ⟨rfl, rfl⟩
    go_wp2_with fail
    refine (HR.out _).mono ?_; rintro e w1 ⟨rfl, hB⟩
    have HB := Lib.hid hB
    clear hB
    go_wp2_with fail
    go_ret2
    exact ⟨ret_tup2 HV1.out.symm HE1.out.symm, HB.out⟩
theorem ceil_16 (X : Int) (h0 : 0 ≤ X) (h1 : X ≤ 100000000) : Fx.scV 1 X 1 16000 = (X + 15999) / 16000 ∧ Fx.scE 1 X 1 16000 = 0 := by
  have e1 : (X + 15999) / 16000 = -((-X) / 16000) := by omega
  have e2 : Fx.rqz 1 (X * 1) 16000 = (X + 15999) / 16000 := by
    unfold Fx.rqz Fx.rq
    rw [if_neg (by omega), if_neg (by decide), if_pos rfl, Int.mul_one, e1]
  rw [Fx.scV_eq 1 X 1 16000 (by omega), Fx.scE_eq 1 X 1 16000 (by omega), e2]
  constructor <;> (rw [if_pos]; unfold Fx.inR; omega)
end Go.Proofs.Ytcmdpfdhmbpahaa
