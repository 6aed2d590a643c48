/- Layer 41 in plain words: when a report agrees with a point. -/
import Derived.Test.YtkomooeohlcnaaaLn
import Derived.Test.YtkomooeohlcnaaaSimRep
namespace Go.Proofs.Ytkomooeohlcnaaa
set_option linter.unusedSimpArgs false
set_option linter.unusedVariables false
open Go.RowKit
open Tr
def agSq (x y px py : Int) : Int := (px - x) * (px - x) + (py - y) * (py - y)
noncomputable def agB (so ki x y va bo we tk px py : Int) : Bool :=
  if repE so ki x y va bo we tk ≠ 0 then false else if ptB px py = false then false
  else if ki = 1 then decide (absV (px - x) ≤ bo) && decide (absV (py - y) ≤ bo)
  else if ki = 2 then decide (agSq x y px py ≤ (va + bo) * (va + bo)) && (decide (va - bo ≤ 0) || decide ((va - bo) * (va - bo) ≤ agSq x y px py))
  else decide (coE x y px py = 0) && decide (absV (diffV va (coV x y px py)) ≤ bo - 2)
theorem agB_e {so ki x y va bo we tk px py : Int} (h : repE so ki x y va bo we tk ≠ 0) : agB so ki x y va bo we tk px py = false := if_pos h
theorem agB_p {so ki x y va bo we tk px py : Int} (h : repE so ki x y va bo we tk = 0) (h2 : ptB px py = false) : agB so ki x y va bo we tk px py = false := by unfold agB; rw [h, if_neg (by decide), if_pos h2]
theorem agB_1 {so x y va bo we tk px py : Int} (h : repE so 1 x y va bo we tk = 0) (h2 : ptB px py = true) : agB so 1 x y va bo we tk px py = (decide (absV (px - x) ≤ bo) && decide (absV (py - y) ≤ bo)) := by unfold agB; rw [h, if_neg (by decide), h2, if_neg (by decide), if_pos rfl]
theorem agB_2 {so x y va bo we tk px py : Int} (h : repE so 2 x y va bo we tk = 0) (h2 : ptB px py = true) : agB so 2 x y va bo we tk px py = (decide (agSq x y px py ≤ (va + bo) * (va + bo)) && (decide (va - bo ≤ 0) || decide ((va - bo) * (va - bo) ≤ agSq x y px py))) := by unfold agB; rw [h, if_neg (by decide), h2, if_neg (by decide), if_neg (by decide), if_pos rfl]
theorem agB_3 {so x y va bo we tk px py : Int} (h : repE so 3 x y va bo we tk = 0) (h2 : ptB px py = true) : agB so 3 x y va bo we tk px py = (decide (coE x y px py = 0) && decide (absV (diffV va (coV x y px py)) ≤ bo - 2)) := by unfold agB; rw [h, if_neg (by decide), h2, if_neg (by decide), if_neg (by decide), if_neg (by decide)]
theorem repE_0 {so ki x y va bo we tk : Int} (h : repE so ki x y va bo we tk = 0) : ((ki = 1 ∨ ki = 2 ∨ ki = 3) ∧ ptB x y = true) ∧ (0 ≤ bo ∧ bo ≤ mostB ki) ∧ 0 ≤ va ∧ va ≤ valB ki := by
  unfold repE at h
  by_cases h1 : repA so ki x y we = true
  · rw [if_pos h1] at h
    by_cases h2 : (inB tk 0 1099511627776 && (inB bo 0 (mostB ki) && inB va 0 (valB ki))) = true
    · unfold repA at h1
      simp only [Bool.and_eq_true, Bool.or_eq_true, beq_iff_eq, inB_iff] at h1 h2
      exact ⟨⟨by have := h1.1.2; omega, h1.2.1⟩, h2.2.1, h2.2.2⟩
    · rw [if_neg h2] at h; exact absurd h (by decide)
  · rw [if_neg h1] at h; exact absurd h (by decide)
theorem sqw {d : Int} (h : -9000000 ≤ d ∧ d ≤ 9000000) : 0 ≤ d * d ∧ d * d ≤ 81000000000000 := by
  have e : d * d = ((d.natAbs * d.natAbs : Nat) : Int) := Int.natAbs_mul_self.symm
  have h1 : d.natAbs ≤ 9000000 := by omega
  have h2 : d.natAbs * d.natAbs ≤ 9000000 * 9000000 := Nat.mul_le_mul h1 h1
  omega
theorem abs_i64 {x : Int} (h : -1000000000 ≤ x ∧ x ≤ 1000000000) : satV (x.natAbs : Int) = absV x := satV_mid ⟨by omega, by omega⟩
end Go.Proofs.Ytkomooeohlcnaaa
