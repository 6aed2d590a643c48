/- Layer 4: Norm, Turn and Diff, of the program and of the reference. -/
import Derived.Test.YtkomooeohlcnaaaFxOps
namespace Go.Proofs.Ytkomooeohlcnaaa
set_option linter.unusedSimpArgs false
set_option linter.unusedVariables false
open Go.RowKit
/-- the normalized angle -/
def nrm (a : Int) : Int := a % 129600000
theorem nrm_bd (a : Int) : 0 ≤ nrm a ∧ nrm a < 129600000 := by unfold nrm; omega
theorem nrm_I64 (a : Int) : I64 (nrm a) := by have := nrm_bd a; exact ⟨by omega, by omega⟩
def turnV (a b : Int) : Int := nrm (nrm a + nrm b)
def diffV (f t : Int) : Int := if 64800000 < nrm (nrm t - nrm f) then nrm (nrm t - nrm f) - 129600000 else nrm (nrm t - nrm f)
theorem diffV_bd (f t : Int) : -64800000 < diffV f t ∧ diffV f t ≤ 64800000 := by
  have := nrm_bd (nrm t - nrm f)
  unfold diffV
  split <;> omega
theorem xNorm (a : Int) (ha : I64 a) (w : World) : Calls Try.prog 27 #[.int .i64 a] w fun e w' => e = .returned (.int .i64 (nrm a)) ∧ w = w' := by
  have ht := Lib.hid (tmod_cases a 129600000 (by decide))
  have hlo := (tmod_bounds a 129600000 (by decide)).1
  have hhi := (tmod_bounds a 129600000 (by decide)).2
  obtain ⟨a0, a1⟩ := ha
  by_cases hn : a.tmod 129600000 < 0
  · have HT1 := Lib.hid (ht.out.1 hn)
    go_enter Try.func27, Try.ntmps27
    go_wp2
    go_ret
    exact ⟨ret_int HT1.out, rfl⟩
  · have HT1 := Lib.hid (ht.out.2 hn)
    go_enter Try.func27, Try.ntmps27
    go_wp2
    go_ret
    exact ⟨ret_int HT1.out, rfl⟩
theorem xTurn (a b : Int) (ha : I64 a) (hb : I64 b) (w : World) : Calls Try.prog 58 #[.int .i64 a, .int .i64 b] w fun e w' => e = .returned (.int .i64 (turnV a b)) ∧ w = w' := by
  have HA := Lib.hid (xNorm a ha)
  have HB := Lib.hid (xNorm b hb)
  have na := nrm_bd a
  have nb := nrm_bd b
  have HC := Lib.hid (xNorm (nrm a + nrm b) ⟨by omega, by omega⟩)
  have hv := Lib.hid (show turnV a b = nrm (nrm a + nrm b) from rfl)
  clear ha hb
  generalize nrm a = x at *
  generalize nrm b = y at *
  obtain ⟨na0, na1⟩ := na
  obtain ⟨nb0, nb1⟩ := nb
  go_enter Try.func58, Try.ntmps58
  go_wp2_with fail
  refine (HA.out _).mono ?_; rintro e w1 ⟨rfl, rfl⟩
  go_wp2_with fail
  refine (HB.out _).mono ?_; rintro e w2 ⟨rfl, rfl⟩
  go_wp2_with fail
  refine (HC.out _).mono ?_; rintro e w3 ⟨rfl, rfl⟩
  go_wp2_with fail
  go_ret
  exact ⟨ret_int hv.out.symm, rfl⟩
theorem xDiff (a b : Int) (ha : I64 a) (hb : I64 b) (w : World) : Calls Try.prog 23 #[.int .i64 a, .int .i64 b] w fun e w' => e = .returned (.int .i64 (diffV a b)) ∧ w = w' := by
  have HA := Lib.hid (xNorm a ha)
  have HB := Lib.hid (xNorm b hb)
  have na := nrm_bd a
  have nb := nrm_bd b
  have HC := Lib.hid (xNorm (nrm b - nrm a) ⟨by omega, by omega⟩)
  have hv := Lib.hid (show diffV a b = if 64800000 < nrm (nrm b - nrm a) then nrm (nrm b - nrm a) - 129600000 else nrm (nrm b - nrm a) from rfl)
  clear ha hb
  generalize nrm a = x at *
  generalize nrm b = y at *
  have nc := nrm_bd (y - x)
  generalize nrm (y - x) = z at *
  obtain ⟨na0, na1⟩ := na
  obtain ⟨nb0, nb1⟩ := nb
  obtain ⟨nc0, nc1⟩ := nc
  by_cases hz : 64800000 < z
  · rw [if_pos hz] at hv
    go_enter Try.func23, Try.ntmps23
    go_wp2_with fail
    refine (HB.out _).mono ?_; rintro e w1 ⟨rfl, rfl⟩
    go_wp2_with fail
    refine (HA.out _).mono ?_; rintro e w2 ⟨rfl, rfl⟩
    go_wp2_with fail
    refine (HC.out _).mono ?_; rintro e w3 ⟨rfl, rfl⟩
    go_wp2_with fail
    go_ret
    exact ⟨ret_int hv.out.symm, rfl⟩
  · rw [if_neg hz] at hv
    go_enter Try.func23, Try.ntmps23
    go_wp2_with fail
    refine (HB.out _).mono ?_; rintro e w1 ⟨rfl, rfl⟩
    go_wp2_with fail
    refine (HA.out _).mono ?_; rintro e w2 ⟨rfl, rfl⟩
    go_wp2_with fail
    refine (HC.out _).mono ?_; rintro e w3 ⟨rfl, rfl⟩
    go_wp2_with fail
    go_ret
    exact ⟨ret_int hv.out.symm, rfl⟩
end Go.Proofs.Ytkomooeohlcnaaa
