/- Layer 41: Agrees, of the reference. -/
import Derived.Test.YtkomooeohlcnaaaAgP
import Derived.Deep.QuietTactic
import Derived.BigQuiet
import Derived.RegionTactic
namespace Go.Proofs.Ytkomooeohlcnaaa
set_option linter.unusedSimpArgs false
set_option linter.unusedVariables false
open Go.RowKit
open Tr
end Go.Proofs.Ytkomooeohlcnaaa
