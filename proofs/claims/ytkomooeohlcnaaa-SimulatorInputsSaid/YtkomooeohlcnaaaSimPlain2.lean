/- Layers 59 and 41 in plain words: which sensors and reports are accepted. -/
import Derived.Test.YtkomooeohlcnaaaSimChk
namespace Go.Proofs.Ytkomooeohlcnaaa
set_option linter.unusedSimpArgs false
set_option linter.unusedVariables false
open Go.RowKit
def mostB (ki : Int) : Int := if (ki == 3) = true then 3600000 else 600000
def snsA (co so we : Int) : Bool := ((co == 1) || (co == 2)) && (inB so 1 8 && inB we 1 16)
def snsE (co so ki qx qy bo we : Int) : Int :=
  if snsA co so we = true then
    (if ((ki == 1) || (ki == 2) || (ki == 3)) = true then (if inB bo 0 (mostB ki) = true then (if ptB qx qy = true then 0 else 1) else 2) else 17)
  else 2
/-- the greatest value of a report of a kind -/
def valB (ki : Int) : Int := if (ki == 2) = true then 8000000 else if (ki == 3) = true then 129599999 else 0
def repA (so ki x y we : Int) : Bool := inB so 1 8 && ((ki == 1) || (ki == 2) || (ki == 3)) && (ptB x y && inB we 1 16)
def repE (so ki x y va bo we tk : Int) : Int :=
  if repA so ki x y we = true then (if (inB tk 0 1099511627776 && (inB bo 0 (mostB ki) && inB va 0 (valB ki))) = true then 0 else 2) else 1
end Go.Proofs.Ytkomooeohlcnaaa
