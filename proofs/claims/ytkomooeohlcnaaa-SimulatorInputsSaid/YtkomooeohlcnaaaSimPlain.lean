/- Layer 59 in plain words: which aircraft, sensors, moments and reports are accepted. -/
import Derived.Test.YtkomooeohlcnaaaFxOps
import Derived.Test.YtkomooeohlcnaaaInB
namespace Go.Proofs.Ytkomooeohlcnaaa
set_option linter.unusedSimpArgs false
set_option linter.unusedVariables false
open Go.RowKit
def ptB (x y : Int) : Bool := inB x (-2000000) 2000000 && inB y (-2000000) 2000000
theorem ptB_iff {x y : Int} : ptB x y = true ↔ (-2000000 ≤ x ∧ x ≤ 2000000) ∧ (-2000000 ≤ y ∧ y ≤ 2000000) := by simp [ptB, inB_iff]
def crB (tk px py ve vn al vs hd ca fu bk : Int) : Bool := inB tk 0 1099511627776 && inB al (-200000) 6000000 && inB vs (-10000) 10000 && inB hd 0 129599999 && inB ca 0 1000 && inB fu 0 3000000000 && inB bk (-3000) 3000 && inB ve (-2000) 2000 && inB vn (-2000) 2000
def cftE (tk px py ve vn al vs hd ca fu bk : Int) : Int := if crB tk px py ve vn al vs hd ca fu bk = true then (if ptB px py = true then 0 else 1) else 2
end Go.Proofs.Ytkomooeohlcnaaa
