/- Layer 29: temperature, speed of sound and ratio, on both sides. -/
import Derived.Test.YtcmdpfdhmbpahaaAtR
namespace Go.Proofs.Ytcmdpfdhmbpahaa
set_option linter.unusedSimpArgs false
set_option linter.unusedVariables false
open Go.RowKit

def inDev (d : Int) : Prop := -4000 ≤ d ∧ d ≤ 4000
instance (d : Int) : Decidable (inDev d) := by unfold inDev; infer_instance
/-- the error of an altitude and a deviation -/
def tE (alt dev : Int) : Int := if inAlt alt then (if inDev dev then 0 else 1) else 2
def tmV (alt dev : Int) : Int := if tE alt dev = 0 then At.tempV alt dev else 0
def sdV (alt dev : Int) : Int := if tE alt dev = 0 then At.soundV alt dev else 0
def rtV (alt dev : Int) : Int := if tE alt dev = 0 then At.ratV alt dev else 0
theorem tE_2 {alt dev : Int} (h : ¬ inAlt alt) : tE alt dev = 2 := by unfold tE; rw [if_neg h]
theorem tE_1 {alt dev : Int} (h : inAlt alt) (d : ¬ inDev dev) : tE alt dev = 1 := by unfold tE; rw [if_pos h, if_neg d]
theorem tE_0 {alt dev : Int} (h : inAlt alt) (d : inDev dev) : tE alt dev = 0 := by unfold tE; rw [if_pos h, if_pos d]
theorem tE_zero {alt dev : Int} (h : tE alt dev = 0) : inAlt alt ∧ inDev dev := by
  unfold tE at h
  by_cases h1 : inAlt alt
  · by_cases h2 : inDev dev
    · exact ⟨h1, h2⟩
    · rw [if_pos h1, if_neg h2] at h; omega
  · rw [if_neg h1] at h; omega
theorem temp_bd {alt dev : Int} (h1 : inAlt alt) (h2 : inDev dev) : 17665 ≤ At.tempV alt dev ∧ At.tempV alt dev ≤ 33211 := by
  have := At.bdT alt h1.1 h1.2
  unfold inDev at h2
  unfold At.tempV
  omega
theorem rat_bd {alt dev : Int} (h1 : inAlt alt) (h2 : inDev dev) : 0 ≤ At.vR alt * (57630 + dev) ∧ At.vR alt * (57630 + dev) ≤ 3259100 * 61630 := by
  have b := At.bdR alt h1.1 h1.2
  unfold inDev at h2
  exact ⟨Int.mul_nonneg (by omega) (by omega), Int.mul_le_mul b.2 (by omega) (by omega) (by omega)⟩

set_option maxRecDepth 100000 in
set_option maxHeartbeats 1000000 in
theorem check_any (alt dev : Int) (w : World) : Calls Try.prog 96 #[.int .i64 alt, .int .i64 dev] w fun e w' => e = .returned (.int .i64 (tE alt dev)) ∧ w = w' := by
  by_cases h : inAlt alt
  · have HO := Lib.hid (fun w => outside_no alt h.1 h.2 w)
    by_cases d1 : dev < -4000
    · have hv := Lib.hid (tE_1 (dev := dev) h (fun d => by unfold inDev at d; omega))
      clear h
      go_enter Try.func96, Try.ntmps96
      go_wp2_with fail
      refine (HO.out _).mono ?_; rintro e w' ⟨rfl, rfl⟩
      go_wp2_with fail
      go_ret
      exact ⟨ret_int hv.out.symm, rfl⟩
    · by_cases d2 : 4000 < dev
      · have hv := Lib.hid (tE_1 (dev := dev) h (fun d => by unfold inDev at d; omega))
        clear h
        go_enter Try.func96, Try.ntmps96
        go_wp2_with fail
        refine (HO.out _).mono ?_; rintro e w' ⟨rfl, rfl⟩
        go_wp2_with fail
        go_ret
        exact ⟨ret_int hv.out.symm, rfl⟩
      · have hv := Lib.hid (tE_0 (dev := dev) h ⟨by omega, by omega⟩)
        clear h
        go_enter Try.func96, Try.ntmps96
        go_wp2_with fail
        refine (HO.out _).mono ?_; rintro e w' ⟨rfl, rfl⟩
        go_wp2_with fail
        go_ret
        exact ⟨ret_int hv.out.symm, rfl⟩
  · have HO := Lib.hid (fun w => outside_yes alt (by unfold inAlt at h; omega) w)
    have hv := Lib.hid (tE_2 (dev := dev) h)
    clear h
    go_enter Try.func96, Try.ntmps96
    go_wp2_with fail
    refine (HO.out _).mono ?_; rintro e w' ⟨rfl, rfl⟩
    go_wp2_with fail
    go_ret
    exact ⟨ret_int hv.out.symm, rfl⟩

set_option maxRecDepth 100000 in
set_option maxHeartbeats 1000000 in
theorem aRatio (alt dev : Int) (w : World) : Calls Try.prog 73 #[.int .i64 alt, .int .i64 dev] w fun e w' => e = .returned (.tuple #[.int .i64 (rtV alt dev), .int .i64 (tE alt dev)]) ∧ Below w.heap.size w w' := by
  have HC := Lib.hid (fun w => check_any alt dev w)
  by_cases he : tE alt dev = 0
  · have hv := Lib.hid (show rtV alt dev = At.ratV alt dev by unfold rtV; rw [if_pos he])
    have hI := tE_zero he
    have bt := rat_bd hI.1 hI.2
    have bv := At.bdR alt hI.1.1 hI.1.2
    have bd := hI.2
    unfold inDev at bd
    obtain ⟨bt1, bt2⟩ := bt
    obtain ⟨bv1, bv2⟩ := bv
    obtain ⟨bd1, bd2⟩ := bd
    have HI := Lib.hid hI
    have HE := Lib.hid he
    rw [he] at HC
    clear hI he
    go_enter Try.func73, Try.ntmps73
    go_wp2_with fail
    refine (HC.out _).mono ?_; rintro e w' ⟨rfl, rfl⟩
    go_wp2_with fail
    refine (tabR_any _).mono ?_; rintro e w1 ⟨b, rfl, hT, hB⟩
    go_wp2_with fail
    refine (value_any b 0 14 14 At.tabR alt w1 rfl okR hT HI.out.1.1 HI.out.1.2).mono ?_; rintro e w2 ⟨rfl, hB2⟩
    rw [At.tv_R]
    have HBB := Lib.hid (hB.trans (hB2.mono hB.size))
    go_wp2_with fail
    go_ret2
    exact ⟨ret_tup2 (by rw [hv.out]; rfl) HE.out.symm, HBB.out⟩
  · have hv := Lib.hid (show rtV alt dev = 0 by unfold rtV; rw [if_neg he])
    have hb : (tE alt dev == 0) = false := beq_eq_false_iff_ne.2 he
    clear he
    generalize tE alt dev = E at *
    go_enter Try.func73, Try.ntmps73
    go_wp2_with fail
    refine (HC.out _).mono ?_; rintro e w' ⟨rfl, rfl⟩
    go_wp2_with fail
    go_ret2
    exact ⟨ret_tup2 hv.out.symm rfl, Below.refl _ _⟩

end Go.Proofs.Ytcmdpfdhmbpahaa
